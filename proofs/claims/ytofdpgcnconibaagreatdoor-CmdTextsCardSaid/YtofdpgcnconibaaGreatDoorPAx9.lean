-- WRITTEN BY a program of this session (pp.sh)
import Derived.Test.YtofdpgcnconibaaGreatDoorPAx0
import Derived.Test.YtofdpgcnconibaaGreatDoorPAx3
import Derived.Test.YtofdpgcnconibaaGreatDoorPAx8
set_option linter.unusedVariables false
set_option linter.unusedSimpArgs false
namespace Go.Proofs.YtofdpgcnconibaaGreatDoor.PA
open Go.RowKit Go.Proofs.YtofdpgcnconibaaGreatDoorW.PrintWords Go.Proofs.YtofdpgcnconibaaGreatDoorW.PrintLast Go.Proofs.YtofdpgcnconibaaGreatDoorW.PrintMore Go.Proofs.YtofdpgcnconibaaGreatDoor.Plain
attribute [local go_sem] max2_int min2_int max_two min_two max_three min_three max_four min_four binOp_leq_s binOp_gtr_s binOp_geq_s lit_byte   -- for this text's walks alone
set_option linter.unusedVariables false
set_option linter.unusedSimpArgs false

/-! ### cmd_encode: function 21, by hand -/
/-- put: a text with one more. -/
theorem put_call (g : Nat) (s x : ByteArray) (has : Bool) (w : World) (hk : w.heap[g]? = some (.cells #[.string s] 9 (0, 0))) (hz : s.size + x.size ≤ 9223372036854775807) :
    Calls Tryz.prog 35 #[.bool has, .string x, .pointer (some ⟨g, 0, none⟩)] w fun e w' => e = .returned (.tuple #[]) ∧ w' = (if has = true then w.setCell ⟨g, 0, none⟩ (.string (s ++ x)) else w) := by
  have hc := blk_cell hk 0
  have hf := blk_frozen hk 0
  have c3b0 : (s.size + x.size ≤ 9223372036854775807) = True := eq_true (by omega)
  have c3b1 : decide (s.size + x.size ≤ 9223372036854775807) = true := decide_eq_true (by omega)
  have c3b2 : (9223372036854775807 < s.size + x.size) = False := eq_false (by omega)
  clear hz hk
  cases has
  · go_enter Tryz.func35, Tryz.ntmps35
    go_wp2
    go_end0
    exact ⟨rfl, rfl⟩
  · go_enter Tryz.func35, Tryz.ntmps35
    go_wp2
    go_end0
    exact ⟨rfl, rfl⟩
/-- What is kept while a record is gathered: the command, its kind's form, the text so far. -/
structure St (w0 W : World) (b f g : Nat) (cc cf : Array Value) (s : ByteArray) : Prop where
  hc : W.heap[b]? = some (.cells cc 23 (0, 0))
  hf : W.heap[f]? = some (.cells cf 77 (0, 0))
  hs : W.heap[g]? = some (.cells #[.string s] 9 (0, 0))
  hB : Below w0.heap.size w0 W
  hg : w0.heap.size ≤ g
  nb : b ≠ g
  nf : f ≠ g
theorem blk_step {W W' : World} {k : Nat} {o : Obj} (h : W.heap[k]? = some o) (hb : Below W.heap.size W W') : W'.heap[k]? = some o :=
  (hb.block k ((Array.getElem?_eq_some_iff.1 h).1)).trans h
theorem St.step {w0 W W' : World} {b f g : Nat} {cc cf : Array Value} {s : ByteArray} (h : St w0 W b f g cc cf s) (hb : Below W.heap.size W W') : St w0 W' b f g cc cf s :=
  ⟨blk_step h.hc hb, blk_step h.hf hb, blk_step h.hs hb, h.hB.trans (hb.mono h.hB.size), h.hg, h.nb, h.nf⟩
theorem blk_set_ne {W : World} {k g : Nat} {o : Obj} (h : W.heap[k]? = some o) (hn : k ≠ g) (v : Value) : (W.setCell ⟨g, 0, none⟩ v).heap[k]? = some o :=
  (Below.heap_setCell W ⟨g, 0, none⟩ v k hn).trans h
theorem blk_set_one {W : World} {g : Nat} {v : Value} {t : TypeId} (h : W.heap[g]? = some (.cells #[v] t (0, 0))) (v' : Value) : (W.setCell ⟨g, 0, none⟩ v').heap[g]? = some (.cells #[v'] t (0, 0)) := by
  obtain ⟨hlt, hk⟩ := Array.getElem?_eq_some_iff.1 h
  show (W.heap.modify g _)[g]? = _
  rw [Array.getElem?_eq_getElem (by rw [Array.size_modify]; exact hlt), Array.getElem_modify_self, hk]
  rfl
theorem size_alloc' (w : World) (o : Obj) : (w.alloc o).heap.size = w.heap.size + 1 := Array.size_push ..
def textB (x : ByteArray) : ByteArray := strOfNums (shortNums 9 x.size) ++ x
theorem St.drew {w0 W : World} {b f g : Nat} {cc cf : Array Value} {s : ByteArray} (h : St w0 W b f g cc cf s) : St w0 W.drew b f g cc cf s :=
  ⟨h.hc, h.hf, h.hs, h.hB.drew, h.hg, h.nb, h.nf⟩
theorem text_call (x : ByteArray) (w : World) (h : x.size ≤ 2000000000000) : Calls Tryz.prog 36 #[.string x] w fun e w' => e = .returned (.string (textB x)) ∧ Below w.heap.size w w' :=
  pack_Text.calls x _ w (by unfold pack_Text.f; rw [if_pos (by omega)]; rfl)
theorem shortNums_le : ∀ (k : Nat) (x : Int), (shortNums k x).length ≤ k + 1
  | 0, _ => by simp [shortNums]
  | k + 1, x => by
    have := shortNums_le k (x / 128)
    unfold shortNums
    split <;> simp <;> omega
theorem short_size (x : Int) : (strOfNums (shortNums 9 x)).size ≤ 16 := by
  have := shortNums_le 9 x
  rw [strOfNums_size]
  omega
theorem text_size (x : ByteArray) : (textB x).size ≤ 16 + x.size := by
  unfold textB
  have := short_size x.size
  rw [ByteArray.size_append]
  omega
theorem St.put {w0 W : World} {b f g : Nat} {cc cf : Array Value} {s : ByteArray} (h : St w0 W b f g cc cf s) (x : ByteArray) : St w0 (W.setCell ⟨g, 0, none⟩ (.string x)) b f g cc cf x := by
  exact ⟨blk_set_ne h.hc h.nb _, blk_set_ne h.hf h.nf _, blk_set_one h.hs _, h.hB.setCell h.hg _, h.hg, h.nb, h.nf⟩
theorem St.putIf {w0 W : World} {b f g : Nat} {cc cf : Array Value} {s : ByteArray} (h : St w0 W b f g cc cf s) (has : Bool) (x : ByteArray) : St w0 (if has = true then W.setCell ⟨g, 0, none⟩ (.string (s ++ x)) else W) b f g cc cf (if has = true then s ++ x else s) := by
  cases has
  · exact h
  · exact h.put _
theorem St.putc {w0 W : World} {b f g : Nat} {cc cf : Array Value} {s : ByteArray} (h : St w0 W b f g cc cf s) (has : Bool) (x : ByteArray) (hz : s.size + x.size ≤ 9223372036854775807) :
    Calls Tryz.prog 35 #[.bool has, .string x, .pointer (some ⟨g, 0, none⟩)] W fun e w' => e = .returned (.tuple #[]) ∧ St w0 w' b f g cc cf (if has = true then s ++ x else s) :=
  (put_call g s x has W h.hs hz).mono fun _ _ ⟨he, hw⟩ => ⟨he, hw ▸ h.putIf has x⟩
theorem wp_pull {c : Code} {Q : Exit → Act → World → Prop} {a : Act} {w : World} (f : Act → Act) (G : World → Prop) (h1 : c.wp Tryz.prog (fun e a' W' => e = Exit.normal ∧ a' = f a ∧ G W') a w) (h2 : ∀ W', G W' → Q .normal (f a) W') : c.wp Tryz.prog Q a w :=
  Code.wp_mono (fun _ _ _ ⟨he, ha, hg⟩ => by subst he; subst ha; exact h2 _ hg) h1
theorem put_size (has : Bool) (s x : ByteArray) : (if has = true then s ++ x else s).size ≤ s.size + x.size := by
  cases has <;> simp [ByteArray.size_append]
theorem fixed_size (x : Int) : (strOfNums (fixedNums x)).size ≤ 16 := by
  have : (fixedNums x).length = 8 := rfl
  rw [strOfNums_size, this]
  omega
theorem short_call (x : Int) (w : World) (h0 : 0 ≤ x) (h1 : x < 18446744073709551616) : Calls Tryz.prog 38 #[.int .u64 x] w fun e w' => e = .returned (.string (strOfNums (shortNums 9 x))) ∧ Below w.heap.size w w' :=
  pack_Short.calls x _ w (by unfold pack_Short.f; rw [if_pos ⟨h0, h1⟩])
theorem fixed_call (x : Int) (w : World) (h0 : 0 ≤ x) (h1 : x < 18446744073709551616) : Calls Tryz.prog 37 #[.int .u64 x] w fun e w' => e = .returned (.string (strOfNums (fixedNums x))) ∧ Below w.heap.size w w' :=
  pack_Fixed.calls x _ w (by unfold pack_Fixed.f; rw [if_pos ⟨h0, h1⟩])
theorem St.start {w0 w2 : World} {b : Nat} {cc cf : Array Value} {s : ByteArray} {u : Value} (hB : Below w0.heap.size w0 w2) (hc : w2.heap[b]? = some (.cells cc 23 (0, 0))) :
    St w0 (((w2.alloc (.cells cf 77 )).alloc (.cells #[u] 5 )).alloc (.cells #[.string s] 9 )) b w2.heap.size (w2.heap.size + 1 + 1) cc cf s := by
  have hl : b < w2.heap.size := (Array.getElem?_eq_some_iff.1 hc).1
  have hs := hB.size
  have s1 := size_alloc' w2 (.cells cf 77 )
  have s2 := size_alloc' (w2.alloc (.cells cf 77 )) (.cells #[u] 5 )
  have b1 : Below w2.heap.size w2 (w2.alloc (.cells cf 77 )) := (Below.refl _ w2).alloc (Nat.le_refl _) _
  have b2 := (b1.alloc (by omega) (.cells #[u] 5 )).alloc (by omega) (.cells #[.string s] 9 )
  refine ⟨blk_step hc b2, ?_, ?_, hB.trans (b2.mono hs), by omega, by omega, by omega⟩
  · rw [Below.heap_alloc _ _ _ (by omega), Below.heap_alloc _ _ _ (by omega)]
    exact heap_alloc_new w2 _
  · rw [← s1, ← s2]
    exact heap_alloc_new _ _
def putB (s : ByteArray) (has : Bool) (x : ByteArray) : ByteArray := if has = true then s ++ x else s
def cmd_encode.f (k : Nat) (a0_0 : Int) (a0_1 : ByteArray) (a0_2 : ByteArray) (a0_3 : ByteArray) (a0_4 : Int) (a0_5 : ByteArray) : Option (ByteArray × Option Int) :=
  (cmd_check.f k a0_0 a0_1 a0_2 a0_3 a0_4 a0_5).bind fun r => match r with
    | some e => some (⟨#[]⟩, some e)
    | none => (cmd_of.f k a0_0).bind fun o =>
      if a0_1.size + a0_2.size + a0_3.size + a0_5.size ≤ 1000000000000 then
        some (textB (putB (putB (putB (putB (putB (putB (strOfNums [a0_0 % 256]) (a0_0 != 16) (textB a0_1)) o.1 (textB a0_2)) o.2.1 (textB a0_3)) (o.2.2.2.1 && (a0_0 == 15)) (strOfNums (fixedNums (a0_4 % 18446744073709551616)))) (o.2.2.2.1 && (a0_0 != 15)) (strOfNums (shortNums 9 (a0_4 % 18446744073709551616)))) o.2.2.1 (textB a0_5)), none)
      else none
set_option linter.unusedSimpArgs false in
set_option maxHeartbeats 16000000 in
set_option maxRecDepth 100000 in
theorem cmd_encode.calls (k : Nat) (a0_0 : Int) (a0_1 : ByteArray) (a0_2 : ByteArray) (a0_3 : ByteArray) (a0_4 : Int) (a0_5 : ByteArray) (r1 : ByteArray) (r2 : Option Int) (w : World) (hT : Tabs w) (h : cmd_encode.f k a0_0 a0_1 a0_2 a0_3 a0_4 a0_5 = some (r1, r2)) :
    Calls Tryz.prog 21 #[.agg #[.int .i64 a0_0, .string a0_1, .string a0_2, .string a0_3, .int .i64 a0_4, .string a0_5]] w fun e w' => e = .returned (.tuple #[.string r1, errW r2]) ∧ Below w.heap.size w w' := by
  unfold cmd_encode.f at h
  obtain ⟨r, hr, h⟩ := Option.bind_eq_some_iff.1 h
  have HR := Aside0.mk hr
  clear hr
  have hw0 := Aside0.mk (show Below w.heap.size w (w.alloc (.cells #[.int .i64 a0_0, .string a0_1, .string a0_2, .string a0_3, .int .i64 a0_4, .string a0_5] 23)) from (Below.refl _ w).alloc (Nat.le_refl _) _)
  have hk0 := Aside0.mk (show (w.alloc (.cells #[.int .i64 a0_0, .string a0_1, .string a0_2, .string a0_3, .int .i64 a0_4, .string a0_5] 23)).heap[w.heap.size]? = some (.cells #[.int .i64 a0_0, .string a0_1, .string a0_2, .string a0_3, .int .i64 a0_4, .string a0_5] 23 (0, 0)) by simpa using heap_alloc_new w _)
  cases r with
  | some c =>
    obtain ⟨rfl, rfl⟩ : (⟨#[]⟩ : ByteArray) = r1 ∧ some c = r2 := by simpa using h
    clear h
    go_enter Tryz.func21, Tryz.ntmps21
    go_wp2_with ((go_at_call 28; refine (cmd_check.calls k _ _ _ _ _ _ _ _ (Tabs.on hT hw0.out) HR.out).mono ?_; rintro e w1 ⟨rfl, hb1⟩; have HB1 := Aside0.mk (hw0.out.trans (hb1.mono hw0.out.size)); clear hb1; simp only [errW_some]))
    go_ret2
    exact ⟨rfl, HB1.out⟩
  | none =>
    obtain ⟨o, ho, h⟩ := Option.bind_eq_some_iff.1 h
    have HO := Aside0.mk ho
    clear ho
    obtain ⟨o1, o2, o3, o4, o5, o6, o7⟩ := o
    by_cases hz : a0_1.size + a0_2.size + a0_3.size + a0_5.size ≤ 1000000000000
    · rw [if_pos hz] at h
      have H := Aside0.mk h
      clear h
      go_enter Tryz.func21, Tryz.ntmps21
      go_wp2_with (first
        | (go_at_call 28; refine (cmd_check.calls k _ _ _ _ _ _ _ _ (Tabs.on hT hw0.out) HR.out).mono ?_; rintro e w1 ⟨rfl, hb1⟩; have HB1 := Aside0.mk (hw0.out.trans (hb1.mono hw0.out.size)); have hk1 := blk_step hk0.out hb1; have c0_ := blk_cell hk1 0; have HK1 := Aside0.mk hk1; clear hb1 hk1; simp only [errW_none])
        | (go_at_call 34; refine (cmd_of.calls k _ _ _ _ _ _ _ _ _ HO.out).mono ?_; rintro e w2 ⟨rfl, hb2⟩; have HB2 := Aside0.mk (HB1.out.trans (hb2.mono HB1.out.size)); have hk2 := blk_step HK1.out hb2; have hl2 : w.heap.size < w2.heap.size := (Array.getElem?_eq_some_iff.1 hk2).1; have c0a : (w2.alloc (.cells #[.bool o1, .bool o2, .bool o3, .bool o4, .int .i64 o5, .int .i64 o6] 77)).cell? ⟨w.heap.size, 0, none⟩ = some (.int .i64 a0_0) := (by rw [World.cell?_alloc_lt _ _ _ hl2]; exact blk_cell hk2 0); have hcv : (convert 61 9 (.slice (some ⟨w2.heap.size + 1, 0, none⟩) 1 1)).run Tryz.prog ((w2.alloc (.cells #[.bool o1, .bool o2, .bool o3, .bool o4, .int .i64 o5, .int .i64 o6] 77)).alloc (.cells #[.int .u8 (a0_0 % 256)] 5)) = .ok (.string (strOfNums [a0_0 % 256])) ((w2.alloc (.cells #[.bool o1, .bool o2, .bool o3, .bool o4, .int .i64 o5, .int .i64 o6] 77)).alloc (.cells #[.int .u8 (a0_0 % 256)] 5)) := (by simpa using conv_new (P := Tryz.prog) (w2.alloc (.cells #[.bool o1, .bool o2, .bool o3, .bool o4, .int .i64 o5, .int .i64 o6] 77)) 61 9 5 5 Tryz.underlying61 Tryz.underlying5 Tryz.underlying9 [a0_0 % 256] 1 1 (by simp)); have HK2 := Aside0.mk hk2; clear hb2 hk2))
      have st := St.start (cf := #[.bool o1, .bool o2, .bool o3, .bool o4, .int .i64 o5, .int .i64 o6]) (s := strOfNums [a0_0 % 256]) (u := .int .u8 (a0_0 % 256)) HB2.out HK2.out
      clear hcv c0a
      generalize hW : (((w2.alloc (.cells #[.bool o1, .bool o2, .bool o3, .bool o4, .int .i64 o5, .int .i64 o6] 77)).alloc (.cells #[.int .u8 (a0_0 % 256)] 5)).alloc (.cells #[.string (strOfNums [a0_0 % 256])] 9)) = W at st ⊢
      generalize hg : w2.heap.size + 1 + 1 = g at st ⊢
      clear hW
      have z0 : (strOfNums [a0_0 % 256]).size = 1 := rfl
      have st7 := st
      clear st
      have st7d := st7.drew
      go_region_held3 (fun W' => W'.cell? ⟨w.heap.size, 0, none⟩ = some (.int .i64 a0_0) ∧ W'.cell? ⟨w.heap.size, 1, none⟩ = some (.string a0_1))
        (first | exact ⟨blk_cell st7b.hc 0, blk_cell st7b.hc 1⟩ | exact ⟨blk_cell st7a.hc 0, blk_cell st7a.hc 1⟩ | exact ⟨blk_cell st7d.hc 0, blk_cell st7d.hc 1⟩ | exact ⟨blk_cell st7.hc 0, blk_cell st7.hc 1⟩)
        (first
          | (go_at_call 36; refine (text_call a0_1 _ (by omega)).mono ?_; rintro e w7a ⟨rfl, hb⟩; have st7a := st7d.step hb; clear hb)
          | (go_at_call 35; refine (st7a.putc _ _ (by have := text_size a0_1; omega)).mono ?_; rintro e w7b ⟨rfl, st7b⟩))
      obtain ⟨s7, e7⟩ : ∃ q, q = (if (a0_0 != 16) = true then strOfNums [a0_0 % 256] ++ textB a0_1 else strOfNums [a0_0 % 256]) := ⟨_, rfl⟩
      have z7 : s7.size ≤ 17 + a0_1.size := by have := text_size a0_1; have := put_size ((a0_0 != 16)) (strOfNums [a0_0 % 256]) (textB a0_1); rw [← e7] at this; omega
      have st8 : St w w7b w.heap.size w2.heap.size g _ _ s7 := e7 ▸ st7b
      have E7 := Aside0.mk e7
      clear e7 st7b st7a st7d st7
      go_wp2
      have st8d := st8.drew
      go_region_held3 (fun W' => W'.cell? ⟨w2.heap.size, 0, none⟩ = some (.bool o1) ∧ W'.cell? ⟨w.heap.size, 2, none⟩ = some (.string a0_2))
        (first | exact ⟨blk_cell st8b.hf 0, blk_cell st8b.hc 2⟩ | exact ⟨blk_cell st8a.hf 0, blk_cell st8a.hc 2⟩ | exact ⟨blk_cell st8d.hf 0, blk_cell st8d.hc 2⟩ | exact ⟨blk_cell st8.hf 0, blk_cell st8.hc 2⟩)
        (first
          | (go_at_call 36; refine (text_call a0_2 _ (by omega)).mono ?_; rintro e w8a ⟨rfl, hb⟩; have st8a := st8d.step hb; clear hb)
          | (go_at_call 35; refine (st8a.putc _ _ (by have := text_size a0_2; omega)).mono ?_; rintro e w8b ⟨rfl, st8b⟩))
      obtain ⟨s8, e8⟩ : ∃ q, q = (if o1 = true then s7 ++ textB a0_2 else s7) := ⟨_, rfl⟩
      have z8 : s8.size ≤ 33 + a0_1.size + a0_2.size := by have := text_size a0_2; have := put_size (o1) (s7) (textB a0_2); rw [← e8] at this; omega
      have st9 : St w w8b w.heap.size w2.heap.size g _ _ s8 := e8 ▸ st8b
      have E8 := Aside0.mk e8
      clear e8 st8b st8a st8d st8
      go_wp2
      have st9d := st9.drew
      go_region_held3 (fun W' => W'.cell? ⟨w2.heap.size, 1, none⟩ = some (.bool o2) ∧ W'.cell? ⟨w.heap.size, 3, none⟩ = some (.string a0_3))
        (first | exact ⟨blk_cell st9b.hf 1, blk_cell st9b.hc 3⟩ | exact ⟨blk_cell st9a.hf 1, blk_cell st9a.hc 3⟩ | exact ⟨blk_cell st9d.hf 1, blk_cell st9d.hc 3⟩ | exact ⟨blk_cell st9.hf 1, blk_cell st9.hc 3⟩)
        (first
          | (go_at_call 36; refine (text_call a0_3 _ (by omega)).mono ?_; rintro e w9a ⟨rfl, hb⟩; have st9a := st9d.step hb; clear hb)
          | (go_at_call 35; refine (st9a.putc _ _ (by have := text_size a0_3; omega)).mono ?_; rintro e w9b ⟨rfl, st9b⟩))
      obtain ⟨s9, e9⟩ : ∃ q, q = (if o2 = true then s8 ++ textB a0_3 else s8) := ⟨_, rfl⟩
      have z9 : s9.size ≤ 49 + a0_1.size + a0_2.size + a0_3.size := by have := text_size a0_3; have := put_size (o2) (s8) (textB a0_3); rw [← e9] at this; omega
      have st10 : St w w9b w.heap.size w2.heap.size g _ _ s9 := e9 ▸ st9b
      have E9 := Aside0.mk e9
      clear e9 st9b st9a st9d st9
      go_wp2
      have u0 : 0 ≤ (a0_4 % 18446744073709551616) := by omega
      have u1 : (a0_4 % 18446744073709551616) < 18446744073709551616 := by omega
      cases o4
      · have st10d := st10.drew
        refine wp_pull (fun a => (((((((((((((a.put (some 48) (.func (.func 35) #[] #[.pointer (some ⟨g, 0, none⟩)])).put (some 49) (.pointer (some ⟨w2.heap.size, 3, none⟩))).put (some 50) (.bool false)).put (some 51) (.bool false)).put (some 52) (undef)).put (some 53) (undef)).put (some 54) (undef)).put (some 55) (.bool false)).put (some 56) (.pointer (some ⟨w.heap.size, 4, none⟩))).put (some 57) (.int .i64 a0_4)).put (some 58) (.int .u64 (a0_4 % 18446744073709551616))).put (some 59) (.string (strOfNums (fixedNums (a0_4 % 18446744073709551616))))).put (some 60) (.tuple #[]))) (fun W' => St w W' w.heap.size w2.heap.size g #[.int .i64 a0_0, .string a0_1, .string a0_2, .string a0_3, .int .i64 a0_4, .string a0_5] #[.bool o1, .bool o2, .bool o3, .bool false, .int .i64 o5, .int .i64 o6] (if false = true then s9 ++ strOfNums (fixedNums (a0_4 % 18446744073709551616)) else s9)) ?_ ?_
        · refine wp_region_held_drew (S := fun W' => W'.cell? ⟨w2.heap.size, 3, none⟩ = some (.bool false) ∧ W'.cell? ⟨w.heap.size, 4, none⟩ = some (.int .i64 a0_4)) (by kernel_rfl) ⟨blk_cell st10d.hf 3, blk_cell st10d.hc 4⟩ (fun hHeld => ?_)
          refine wpAnyH_take (i := 0) (v := .func (.func 35) #[] #[.pointer (some ⟨g, 0, none⟩)]) rfl (by kernel_rfl) (by kernel_rfl) (by kernel_rfl) (fun _ _ _ h => by cases h.1) (Or.inl ⟨rfl, fun w hSw => by obtain ⟨hx, hy⟩ := hSw; go_simp⟩) hHeld ?_
          try simp only [Act.put, List.setIfInBounds_toArray, List.set_cons_zero, List.set_cons_succ]
          refine wpAnyH_take (i := 1) (v := .pointer (some ⟨w2.heap.size, 3, none⟩)) rfl (by kernel_rfl) (by kernel_rfl) (by kernel_rfl) (fun _ _ _ h => by cases h.1) (Or.inl ⟨rfl, fun w hSw => by obtain ⟨hx, hy⟩ := hSw; go_simp⟩) hHeld ?_
          try simp only [Act.put, List.setIfInBounds_toArray, List.set_cons_zero, List.set_cons_succ]
          refine wpAnyH_take (i := 2) (v := .bool false) rfl (by kernel_rfl) (by kernel_rfl) (by kernel_rfl) (fun _ _ _ h => by cases h.1) (Or.inl ⟨rfl, fun w hSw => by obtain ⟨hx, hy⟩ := hSw; go_simp⟩) hHeld ?_
          try simp only [Act.put, List.setIfInBounds_toArray, List.set_cons_zero, List.set_cons_succ]
          refine wpAnyH_take (i := 3) (v := .bool false) rfl (by kernel_rfl) (by kernel_rfl) (by kernel_rfl) (fun _ _ _ h => by cases h.1) (Or.inl ⟨rfl, fun w hSw => by obtain ⟨hx, hy⟩ := hSw; go_simp⟩) hHeld ?_
          try simp only [Act.put, List.setIfInBounds_toArray, List.set_cons_zero, List.set_cons_succ]
          refine wpAnyH_take (i := 4) (v := undef) rfl (by kernel_rfl) (by kernel_rfl) (by kernel_rfl) (fun _ _ _ h => by cases h.1) (Or.inr ⟨rfl, rfl⟩) hHeld ?_
          try simp only [Act.put, List.setIfInBounds_toArray, List.set_cons_zero, List.set_cons_succ]
          refine wpAnyH_take (i := 5) (v := undef) rfl (by kernel_rfl) (by kernel_rfl) (by kernel_rfl) (fun _ _ _ h => by cases h.1) (Or.inr ⟨rfl, rfl⟩) hHeld ?_
          try simp only [Act.put, List.setIfInBounds_toArray, List.set_cons_zero, List.set_cons_succ]
          refine wpAnyH_take (i := 6) (v := undef) rfl (by kernel_rfl) (by kernel_rfl) (by kernel_rfl) (fun _ _ _ h => by cases h.1) (Or.inr ⟨rfl, rfl⟩) hHeld ?_
          try simp only [Act.put, List.setIfInBounds_toArray, List.set_cons_zero, List.set_cons_succ]
          refine wpAnyH_take (i := 7) (v := .bool false) rfl (by kernel_rfl) (by kernel_rfl) (by kernel_rfl) (fun _ _ _ h => by cases h.1) (Or.inl ⟨rfl, fun w hSw => by obtain ⟨hx, hy⟩ := hSw; go_simp⟩) hHeld ?_
          try simp only [Act.put, List.setIfInBounds_toArray, List.set_cons_zero, List.set_cons_succ]
          refine wpAnyH_take (i := 8) (v := .pointer (some ⟨w.heap.size, 4, none⟩)) rfl (by kernel_rfl) (by kernel_rfl) (by kernel_rfl) (fun _ _ _ h => by cases h.1) (Or.inl ⟨rfl, fun w hSw => by obtain ⟨hx, hy⟩ := hSw; go_simp⟩) hHeld ?_
          try simp only [Act.put, List.setIfInBounds_toArray, List.set_cons_zero, List.set_cons_succ]
          refine wpAnyH_take (i := 9) (v := .int .i64 a0_4) rfl (by kernel_rfl) (by kernel_rfl) (by kernel_rfl) (fun _ _ _ h => by cases h.1) (Or.inl ⟨rfl, fun w hSw => by obtain ⟨hx, hy⟩ := hSw; go_simp⟩) hHeld ?_
          try simp only [Act.put, List.setIfInBounds_toArray, List.set_cons_zero, List.set_cons_succ]
          refine wpAnyH_take (i := 10) (v := .int .u64 (a0_4 % 18446744073709551616)) rfl (by kernel_rfl) (by kernel_rfl) (by kernel_rfl) (fun _ _ _ h => by cases h.1) (Or.inl ⟨rfl, fun w hSw => by obtain ⟨hx, hy⟩ := hSw; go_simp; exact wrap_u64 _⟩) hHeld ?_
          try simp only [Act.put, List.setIfInBounds_toArray, List.set_cons_zero, List.set_cons_succ]
          refine wpAnyH_ready (rs := [11]) (by kernel_rfl) (by simp) ?_
          refine AllReadyH.cons rfl (fun K hK => ?_) AllReadyH.nil
          go_simp
          go_at_call 37; refine (fixed_call (a0_4 % 18446744073709551616) _ (by omega) (by omega)).mono ?_; rintro e w10a ⟨rfl, hb⟩; have st10a := st10d.step hb; clear hb
          try go_wp2_with fail
          refine hK.out _ _ ⟨blk_cell st10a.hf 3, blk_cell st10a.hc 4⟩ (fun hHeld => ?_)
          clear hK K
          try simp only [Act.put, List.setIfInBounds_toArray, List.set_cons_zero, List.set_cons_succ]
          refine wpAnyH_ready (rs := [12]) (by kernel_rfl) (by simp) ?_
          refine AllReadyH.cons rfl (fun K hK => ?_) AllReadyH.nil
          go_simp
          go_at_call 35; refine (st10a.putc _ _ (by have := fixed_size (a0_4 % 18446744073709551616); omega)).mono ?_; rintro e w10b ⟨rfl, st10b⟩
          try go_wp2_with fail
          refine hK.out _ _ ⟨blk_cell st10b.hf 3, blk_cell st10b.hc 4⟩ (fun hHeld => ?_)
          clear hK K
          try simp only [Act.put, List.setIfInBounds_toArray, List.set_cons_zero, List.set_cons_succ]
          refine wpAnyH_done (by kernel_rfl) ?_ _
          exact ⟨rfl, rfl, st10b⟩
        intro w10b st10b
        try simp only [Act.put, List.setIfInBounds_toArray, List.set_cons_zero, List.set_cons_succ]
        obtain ⟨s10, e10⟩ : ∃ q, q = (if false = true then s9 ++ strOfNums (fixedNums (a0_4 % 18446744073709551616)) else s9) := ⟨_, rfl⟩
        have z10 : s10.size ≤ 65 + a0_1.size + a0_2.size + a0_3.size := by have := fixed_size (a0_4 % 18446744073709551616); have := put_size (false) (s9) (strOfNums (fixedNums (a0_4 % 18446744073709551616))); rw [← e10] at this; omega
        have st11 : St w w10b w.heap.size w2.heap.size g _ _ s10 := e10 ▸ st10b
        have E10 := Aside0.mk e10
        clear e10 st10b st10d st10
        go_wp2
        have st11d := st11.drew
        refine wp_pull (fun a => (((((((((((((a.put (some 61) (.func (.func 35) #[] #[.pointer (some ⟨g, 0, none⟩)])).put (some 62) (.pointer (some ⟨w2.heap.size, 3, none⟩))).put (some 63) (.bool false)).put (some 64) (.bool false)).put (some 65) (undef)).put (some 66) (undef)).put (some 67) (undef)).put (some 68) (.bool false)).put (some 69) (.pointer (some ⟨w.heap.size, 4, none⟩))).put (some 70) (.int .i64 a0_4)).put (some 71) (.int .u64 (a0_4 % 18446744073709551616))).put (some 72) (.string (strOfNums (shortNums 9 (a0_4 % 18446744073709551616))))).put (some 73) (.tuple #[]))) (fun W' => St w W' w.heap.size w2.heap.size g #[.int .i64 a0_0, .string a0_1, .string a0_2, .string a0_3, .int .i64 a0_4, .string a0_5] #[.bool o1, .bool o2, .bool o3, .bool false, .int .i64 o5, .int .i64 o6] (if false = true then s10 ++ strOfNums (shortNums 9 (a0_4 % 18446744073709551616)) else s10)) ?_ ?_
        · refine wp_region_held_drew (S := fun W' => W'.cell? ⟨w2.heap.size, 3, none⟩ = some (.bool false) ∧ W'.cell? ⟨w.heap.size, 4, none⟩ = some (.int .i64 a0_4)) (by kernel_rfl) ⟨blk_cell st11d.hf 3, blk_cell st11d.hc 4⟩ (fun hHeld => ?_)
          refine wpAnyH_take (i := 0) (v := .func (.func 35) #[] #[.pointer (some ⟨g, 0, none⟩)]) rfl (by kernel_rfl) (by kernel_rfl) (by kernel_rfl) (fun _ _ _ h => by cases h.1) (Or.inl ⟨rfl, fun w hSw => by obtain ⟨hx, hy⟩ := hSw; go_simp⟩) hHeld ?_
          try simp only [Act.put, List.setIfInBounds_toArray, List.set_cons_zero, List.set_cons_succ]
          refine wpAnyH_take (i := 1) (v := .pointer (some ⟨w2.heap.size, 3, none⟩)) rfl (by kernel_rfl) (by kernel_rfl) (by kernel_rfl) (fun _ _ _ h => by cases h.1) (Or.inl ⟨rfl, fun w hSw => by obtain ⟨hx, hy⟩ := hSw; go_simp⟩) hHeld ?_
          try simp only [Act.put, List.setIfInBounds_toArray, List.set_cons_zero, List.set_cons_succ]
          refine wpAnyH_take (i := 2) (v := .bool false) rfl (by kernel_rfl) (by kernel_rfl) (by kernel_rfl) (fun _ _ _ h => by cases h.1) (Or.inl ⟨rfl, fun w hSw => by obtain ⟨hx, hy⟩ := hSw; go_simp⟩) hHeld ?_
          try simp only [Act.put, List.setIfInBounds_toArray, List.set_cons_zero, List.set_cons_succ]
          refine wpAnyH_take (i := 3) (v := .bool false) rfl (by kernel_rfl) (by kernel_rfl) (by kernel_rfl) (fun _ _ _ h => by cases h.1) (Or.inl ⟨rfl, fun w hSw => by obtain ⟨hx, hy⟩ := hSw; go_simp⟩) hHeld ?_
          try simp only [Act.put, List.setIfInBounds_toArray, List.set_cons_zero, List.set_cons_succ]
          refine wpAnyH_take (i := 4) (v := undef) rfl (by kernel_rfl) (by kernel_rfl) (by kernel_rfl) (fun _ _ _ h => by cases h.1) (Or.inr ⟨rfl, rfl⟩) hHeld ?_
          try simp only [Act.put, List.setIfInBounds_toArray, List.set_cons_zero, List.set_cons_succ]
          refine wpAnyH_take (i := 5) (v := undef) rfl (by kernel_rfl) (by kernel_rfl) (by kernel_rfl) (fun _ _ _ h => by cases h.1) (Or.inr ⟨rfl, rfl⟩) hHeld ?_
          try simp only [Act.put, List.setIfInBounds_toArray, List.set_cons_zero, List.set_cons_succ]
          refine wpAnyH_take (i := 6) (v := undef) rfl (by kernel_rfl) (by kernel_rfl) (by kernel_rfl) (fun _ _ _ h => by cases h.1) (Or.inr ⟨rfl, rfl⟩) hHeld ?_
          try simp only [Act.put, List.setIfInBounds_toArray, List.set_cons_zero, List.set_cons_succ]
          refine wpAnyH_take (i := 7) (v := .bool false) rfl (by kernel_rfl) (by kernel_rfl) (by kernel_rfl) (fun _ _ _ h => by cases h.1) (Or.inl ⟨rfl, fun w hSw => by obtain ⟨hx, hy⟩ := hSw; go_simp⟩) hHeld ?_
          try simp only [Act.put, List.setIfInBounds_toArray, List.set_cons_zero, List.set_cons_succ]
          refine wpAnyH_take (i := 8) (v := .pointer (some ⟨w.heap.size, 4, none⟩)) rfl (by kernel_rfl) (by kernel_rfl) (by kernel_rfl) (fun _ _ _ h => by cases h.1) (Or.inl ⟨rfl, fun w hSw => by obtain ⟨hx, hy⟩ := hSw; go_simp⟩) hHeld ?_
          try simp only [Act.put, List.setIfInBounds_toArray, List.set_cons_zero, List.set_cons_succ]
          refine wpAnyH_take (i := 9) (v := .int .i64 a0_4) rfl (by kernel_rfl) (by kernel_rfl) (by kernel_rfl) (fun _ _ _ h => by cases h.1) (Or.inl ⟨rfl, fun w hSw => by obtain ⟨hx, hy⟩ := hSw; go_simp⟩) hHeld ?_
          try simp only [Act.put, List.setIfInBounds_toArray, List.set_cons_zero, List.set_cons_succ]
          refine wpAnyH_take (i := 10) (v := .int .u64 (a0_4 % 18446744073709551616)) rfl (by kernel_rfl) (by kernel_rfl) (by kernel_rfl) (fun _ _ _ h => by cases h.1) (Or.inl ⟨rfl, fun w hSw => by obtain ⟨hx, hy⟩ := hSw; go_simp; exact wrap_u64 _⟩) hHeld ?_
          try simp only [Act.put, List.setIfInBounds_toArray, List.set_cons_zero, List.set_cons_succ]
          refine wpAnyH_ready (rs := [11]) (by kernel_rfl) (by simp) ?_
          refine AllReadyH.cons rfl (fun K hK => ?_) AllReadyH.nil
          go_simp
          go_at_call 38; refine (short_call (a0_4 % 18446744073709551616) _ (by omega) (by omega)).mono ?_; rintro e w11a ⟨rfl, hb⟩; have st11a := st11d.step hb; clear hb
          try go_wp2_with fail
          refine hK.out _ _ ⟨blk_cell st11a.hf 3, blk_cell st11a.hc 4⟩ (fun hHeld => ?_)
          clear hK K
          try simp only [Act.put, List.setIfInBounds_toArray, List.set_cons_zero, List.set_cons_succ]
          refine wpAnyH_ready (rs := [12]) (by kernel_rfl) (by simp) ?_
          refine AllReadyH.cons rfl (fun K hK => ?_) AllReadyH.nil
          go_simp
          go_at_call 35; refine (st11a.putc _ _ (by have := short_size (a0_4 % 18446744073709551616); omega)).mono ?_; rintro e w11b ⟨rfl, st11b⟩
          try go_wp2_with fail
          refine hK.out _ _ ⟨blk_cell st11b.hf 3, blk_cell st11b.hc 4⟩ (fun hHeld => ?_)
          clear hK K
          try simp only [Act.put, List.setIfInBounds_toArray, List.set_cons_zero, List.set_cons_succ]
          refine wpAnyH_done (by kernel_rfl) ?_ _
          exact ⟨rfl, rfl, st11b⟩
        intro w11b st11b
        try simp only [Act.put, List.setIfInBounds_toArray, List.set_cons_zero, List.set_cons_succ]
        obtain ⟨s11, e11⟩ : ∃ q, q = (if false = true then s10 ++ strOfNums (shortNums 9 (a0_4 % 18446744073709551616)) else s10) := ⟨_, rfl⟩
        have z11 : s11.size ≤ 81 + a0_1.size + a0_2.size + a0_3.size := by have := short_size (a0_4 % 18446744073709551616); have := put_size (false) (s10) (strOfNums (shortNums 9 (a0_4 % 18446744073709551616))); rw [← e11] at this; omega
        have st12 : St w w11b w.heap.size w2.heap.size g _ _ s11 := e11 ▸ st11b
        have E11 := Aside0.mk e11
        clear e11 st11b st11d st11
        go_wp2
        have st12d := st12.drew
        go_region_held3 (fun W' => W'.cell? ⟨w2.heap.size, 2, none⟩ = some (.bool o3) ∧ W'.cell? ⟨w.heap.size, 5, none⟩ = some (.string a0_5))
          (first | exact ⟨blk_cell st12b.hf 2, blk_cell st12b.hc 5⟩ | exact ⟨blk_cell st12a.hf 2, blk_cell st12a.hc 5⟩ | exact ⟨blk_cell st12d.hf 2, blk_cell st12d.hc 5⟩ | exact ⟨blk_cell st12.hf 2, blk_cell st12.hc 5⟩)
          (first
            | (go_at_call 36; refine (text_call a0_5 _ (by omega)).mono ?_; rintro e w12a ⟨rfl, hb⟩; have st12a := st12d.step hb; clear hb)
            | (go_at_call 35; refine (st12a.putc _ _ (by have := text_size a0_5; omega)).mono ?_; rintro e w12b ⟨rfl, st12b⟩))
        obtain ⟨s12, e12⟩ : ∃ q, q = (if o3 = true then s11 ++ textB a0_5 else s11) := ⟨_, rfl⟩
        have z12 : s12.size ≤ 97 + a0_1.size + a0_2.size + a0_3.size + a0_5.size := by have := text_size a0_5; have := put_size (o3) (s11) (textB a0_5); rw [← e12] at this; omega
        have st13 : St w w12b w.heap.size w2.heap.size g _ _ s12 := e12 ▸ st12b
        have E12 := Aside0.mk e12
        clear e12 st12b st12a st12d st12
        have cg := blk_cell st13.hs 0
        go_wp2_with (go_at_call 36; refine (text_call s12 _ (by omega)).mono ?_; rintro e w13 ⟨rfl, hb⟩; have st14 := st13.step hb; clear hb)
        go_ret2
        have h := H.out
        simp only [Option.some.injEq, Prod.mk.injEq] at h
        obtain ⟨h1, rfl⟩ := h
        refine ⟨?_, st14.hB⟩
        rw [← h1, E12.out, E11.out, E10.out, E9.out, E8.out, E7.out]
        rfl
      · have st10d := st10.drew
        go_region_held3 (fun W' => W'.cell? ⟨w2.heap.size, 3, none⟩ = some (.bool true) ∧ W'.cell? ⟨w.heap.size, 0, none⟩ = some (.int .i64 a0_0) ∧ W'.cell? ⟨w.heap.size, 4, none⟩ = some (.int .i64 a0_4))
          (first | exact ⟨blk_cell st10b.hf 3, blk_cell st10b.hc 0, blk_cell st10b.hc 4⟩ | exact ⟨blk_cell st10a.hf 3, blk_cell st10a.hc 0, blk_cell st10a.hc 4⟩ | exact ⟨blk_cell st10d.hf 3, blk_cell st10d.hc 0, blk_cell st10d.hc 4⟩ | exact ⟨blk_cell st10.hf 3, blk_cell st10.hc 0, blk_cell st10.hc 4⟩)
          (first
            | (go_at_call 37; refine (fixed_call (a0_4 % 18446744073709551616) _ (by omega) (by omega)).mono ?_; rintro e w10a ⟨rfl, hb⟩; have st10a := st10d.step hb; clear hb)
            | (go_at_call 35; refine (st10a.putc _ _ (by have := fixed_size (a0_4 % 18446744073709551616); omega)).mono ?_; rintro e w10b ⟨rfl, st10b⟩))
        obtain ⟨s10, e10⟩ : ∃ q, q = (if (a0_0 == 15) = true then s9 ++ strOfNums (fixedNums (a0_4 % 18446744073709551616)) else s9) := ⟨_, rfl⟩
        have z10 : s10.size ≤ 65 + a0_1.size + a0_2.size + a0_3.size := by have := fixed_size (a0_4 % 18446744073709551616); have := put_size ((a0_0 == 15)) (s9) (strOfNums (fixedNums (a0_4 % 18446744073709551616))); rw [← e10] at this; omega
        have st11 : St w w10b w.heap.size w2.heap.size g _ _ s10 := e10 ▸ st10b
        have E10 := Aside0.mk e10
        clear e10 st10b st10a st10d st10
        go_wp2
        have st11d := st11.drew
        go_region_held3 (fun W' => W'.cell? ⟨w2.heap.size, 3, none⟩ = some (.bool true) ∧ W'.cell? ⟨w.heap.size, 0, none⟩ = some (.int .i64 a0_0) ∧ W'.cell? ⟨w.heap.size, 4, none⟩ = some (.int .i64 a0_4))
          (first | exact ⟨blk_cell st11b.hf 3, blk_cell st11b.hc 0, blk_cell st11b.hc 4⟩ | exact ⟨blk_cell st11a.hf 3, blk_cell st11a.hc 0, blk_cell st11a.hc 4⟩ | exact ⟨blk_cell st11d.hf 3, blk_cell st11d.hc 0, blk_cell st11d.hc 4⟩ | exact ⟨blk_cell st11.hf 3, blk_cell st11.hc 0, blk_cell st11.hc 4⟩)
          (first
            | (go_at_call 38; refine (short_call (a0_4 % 18446744073709551616) _ (by omega) (by omega)).mono ?_; rintro e w11a ⟨rfl, hb⟩; have st11a := st11d.step hb; clear hb)
            | (go_at_call 35; refine (st11a.putc _ _ (by have := short_size (a0_4 % 18446744073709551616); omega)).mono ?_; rintro e w11b ⟨rfl, st11b⟩))
        obtain ⟨s11, e11⟩ : ∃ q, q = (if (a0_0 != 15) = true then s10 ++ strOfNums (shortNums 9 (a0_4 % 18446744073709551616)) else s10) := ⟨_, rfl⟩
        have z11 : s11.size ≤ 81 + a0_1.size + a0_2.size + a0_3.size := by have := short_size (a0_4 % 18446744073709551616); have := put_size ((a0_0 != 15)) (s10) (strOfNums (shortNums 9 (a0_4 % 18446744073709551616))); rw [← e11] at this; omega
        have st12 : St w w11b w.heap.size w2.heap.size g _ _ s11 := e11 ▸ st11b
        have E11 := Aside0.mk e11
        clear e11 st11b st11a st11d st11
        go_wp2
        have st12d := st12.drew
        go_region_held3 (fun W' => W'.cell? ⟨w2.heap.size, 2, none⟩ = some (.bool o3) ∧ W'.cell? ⟨w.heap.size, 5, none⟩ = some (.string a0_5))
          (first | exact ⟨blk_cell st12b.hf 2, blk_cell st12b.hc 5⟩ | exact ⟨blk_cell st12a.hf 2, blk_cell st12a.hc 5⟩ | exact ⟨blk_cell st12d.hf 2, blk_cell st12d.hc 5⟩ | exact ⟨blk_cell st12.hf 2, blk_cell st12.hc 5⟩)
          (first
            | (go_at_call 36; refine (text_call a0_5 _ (by omega)).mono ?_; rintro e w12a ⟨rfl, hb⟩; have st12a := st12d.step hb; clear hb)
            | (go_at_call 35; refine (st12a.putc _ _ (by have := text_size a0_5; omega)).mono ?_; rintro e w12b ⟨rfl, st12b⟩))
        obtain ⟨s12, e12⟩ : ∃ q, q = (if o3 = true then s11 ++ textB a0_5 else s11) := ⟨_, rfl⟩
        have z12 : s12.size ≤ 97 + a0_1.size + a0_2.size + a0_3.size + a0_5.size := by have := text_size a0_5; have := put_size (o3) (s11) (textB a0_5); rw [← e12] at this; omega
        have st13 : St w w12b w.heap.size w2.heap.size g _ _ s12 := e12 ▸ st12b
        have E12 := Aside0.mk e12
        clear e12 st12b st12a st12d st12
        have cg := blk_cell st13.hs 0
        go_wp2_with (go_at_call 36; refine (text_call s12 _ (by omega)).mono ?_; rintro e w13 ⟨rfl, hb⟩; have st14 := st13.step hb; clear hb)
        go_ret2
        have h := H.out
        simp only [Option.some.injEq, Prod.mk.injEq] at h
        obtain ⟨h1, rfl⟩ := h
        refine ⟨?_, st14.hB⟩
        rw [← h1, E12.out, E11.out, E10.out, E9.out, E8.out, E7.out]
        rfl
    · rw [if_neg hz] at h
      cases h


end Go.Proofs.YtofdpgcnconibaaGreatDoor.PA
