import Derived.Test.YtcocddpknkklhaaWWords
import Derived.Lib.Bytealg
/-! Two lists whose keys rise, gone through side by side; what is found by keys. -/
set_option linter.unusedVariables false
namespace Go.Proofs.Ytcocddpknkklhaa.MergeP
/-- Texts in their order. -/
def lt (a b : ByteArray) : Bool := Op.bytesLess a.toList b.toList
theorem bl_irr : ∀ l : List UInt8, Op.bytesLess l l = false
  | [] => rfl
  | x :: r => by
    simp only [Op.bytesLess]
    rw [bl_irr r]
    simp
theorem bl_trans : ∀ a b c : List UInt8, Op.bytesLess a b = true → Op.bytesLess b c = true → Op.bytesLess a c = true
  | [], [], _, h, _ => by cases h
  | [], _ :: _, [], _, h => by cases h
  | [], _ :: _, _ :: _, _, _ => rfl
  | _ :: _, [], _, h, _ => by cases h
  | _ :: _, _ :: _, [], _, h => by cases h
  | x :: a, y :: b, z :: c, h1, h2 => by
    simp only [Op.bytesLess, Bool.or_eq_true, Bool.and_eq_true, decide_eq_true_eq, beq_iff_eq] at h1 h2 ⊢
    rcases h1 with h1 | ⟨rfl, h1⟩
    · rcases h2 with h2 | ⟨rfl, h2⟩
      · exact .inl (UInt8.lt_trans h1 h2)
      · exact .inl h1
    · rcases h2 with h2 | ⟨rfl, h2⟩
      · exact .inl h2
      · exact .inr ⟨rfl, bl_trans a b c h1 h2⟩
theorem bl_tot : ∀ a b : List UInt8, Op.bytesLess a b = false → Op.bytesLess b a = false → a = b
  | [], [], _, _ => rfl
  | [], _ :: _, h, _ => by cases h
  | _ :: _, [], _, h => by cases h
  | x :: a, y :: b, h1, h2 => by
    simp only [Op.bytesLess, Bool.or_eq_false_iff, Bool.and_eq_false_iff, decide_eq_false_iff_not, beq_eq_false_iff_ne] at h1 h2
    have hx : x = y := by
      have a1 := h1.1
      have a2 := h2.1
      have q1 : ¬ x.toNat < y.toNat := fun h => a1 (UInt8.lt_iff_toNat_lt.mpr h)
      have q2 : ¬ y.toNat < x.toNat := fun h => a2 (UInt8.lt_iff_toNat_lt.mpr h)
      exact UInt8.toNat_inj.mp (by omega)
    subst hx
    have b1 := h1.2.resolve_left (fun h => h rfl)
    have b2 := h2.2.resolve_left (fun h => h rfl)
    rw [bl_tot a b b1 b2]
theorem lt_irr (a : ByteArray) : lt a a = false := bl_irr _
theorem lt_trans {a b c : ByteArray} (h1 : lt a b = true) (h2 : lt b c = true) : lt a c = true := bl_trans _ _ _ h1 h2
theorem lt_ne {a b : ByteArray} (h : lt a b = true) : a ≠ b := fun e => by subst e; rw [lt_irr] at h; cases h
theorem lt_asym {a b : ByteArray} (h : lt a b = true) : lt b a = false := by
  cases hb : lt b a with
  | false => rfl
  | true => have := lt_trans h hb; rw [lt_irr] at this; cases this
theorem toList_inj {a b : ByteArray} (h : a.toList = b.toList) : a = b := by
  rw [ByteArray.toList_eq, ByteArray.toList_eq] at h
  cases a; cases b; simp at h; simp [h]
theorem lt_tot {a b : ByteArray} (h1 : lt a b = false) (h2 : lt b a = false) : a = b := toList_inj (bl_tot _ _ h1 h2)
theorem lt_cases (a b : ByteArray) : lt a b = true ∨ a = b ∨ lt b a = true := by
  cases h1 : lt a b with
  | true => exact .inl rfl
  | false =>
    cases h2 : lt b a with
    | true => exact .inr (.inr rfl)
    | false => exact .inr (.inl (lt_tot h1 h2))
theorem cb_lt : ∀ a b : List UInt8, decide (Lib.compareBytes a b < 0) = Op.bytesLess a b
  | [], [] => rfl
  | [], _ :: _ => rfl
  | _ :: _, [] => rfl
  | x :: a, y :: b => by
    have ih := cb_lt a b
    simp only [Lib.compareBytes, Op.bytesLess]
    by_cases h1 : x < y
    · simp [h1]
    · by_cases h2 : y < x
      · have h3 : ¬ x = y := fun e => by subst e; exact h1 h2
        simp [h1, h2, h3]
      · have h3 : x = y := by
          have q1 : ¬ x.toNat < y.toNat := fun h => h1 (UInt8.lt_iff_toNat_lt.mpr h)
          have q2 : ¬ y.toNat < x.toNat := fun h => h2 (UInt8.lt_iff_toNat_lt.mpr h)
          exact UInt8.toNat_inj.mp (by omega)
        subst h3
        simp only [if_neg h1, ih]
        simp [h1]
/-- Not below, and not the same: above. -/
theorem cb_step (a b : ByteArray) : (!decide (Lib.compareBytes b.data.toList a.data.toList < 0) && !(b.toList == a.toList)) = lt a b := by
  rw [cb_lt, ← ByteArray.toList_eq, ← ByteArray.toList_eq]
  show (!(lt b a) && !(b.toList == a.toList)) = lt a b
  rcases lt_cases a b with h | rfl | h
  · have h2 : (b.toList == a.toList) = false := beq_eq_false_iff_ne.2 fun e => lt_ne h (toList_inj e.symm)
    rw [lt_asym h, h2, h]; rfl
  · rw [lt_irr]; simp
  · rw [h, lt_asym h]; rfl
section
variable {α β γ : Type}
/-- The keys rise. -/
def Rises (k : α → ByteArray) (l : List α) : Prop := l.Pairwise (fun x y => lt (k x) (k y) = true)
/-- What stands at a key. -/
def get (k : α → ByteArray) (key : ByteArray) : List α → Option α
  | [] => none
  | x :: r => if k x = key then some x else get k key r
theorem get_none {k : α → ByteArray} {key : ByteArray} : ∀ {l : List α}, (∀ x ∈ l, k x ≠ key) → get k key l = none
  | [], _ => rfl
  | x :: r, h => by
    unfold get
    rw [if_neg (h x (.head _)), get_none (fun y hy => h y (.tail _ hy))]
theorem get_key {k : α → ByteArray} {key : ByteArray} : ∀ {l : List α} {x : α}, get k key l = some x → k x = key ∧ x ∈ l
  | y :: r, x, h => by
    unfold get at h
    by_cases e : k y = key
    · rw [if_pos e] at h; cases h; exact ⟨e, .head _⟩
    · rw [if_neg e] at h
      obtain ⟨h1, h2⟩ := get_key h
      exact ⟨h1, .tail _ h2⟩
theorem get_below {k : α → ByteArray} {key : ByteArray} {l : List α} (h : ∀ x ∈ l, lt key (k x) = true) : get k key l = none :=
  get_none fun x hx => (lt_ne (h x hx)).symm
theorem get_mem {k : α → ByteArray} : ∀ {l : List α}, Rises k l → ∀ x ∈ l, get k (k x) l = some x
  | y :: r, hr, x, hx => by
    have hr' := List.pairwise_cons.1 hr
    unfold get
    rcases List.mem_cons.1 hx with rfl | hx
    · rw [if_pos rfl]
    · rw [if_neg (lt_ne (hr'.1 x hx)), get_mem hr'.2 x hx]
/-- Lists that rise are the same, if the same is found. -/
theorem ext {k : α → ByteArray} : ∀ {l m : List α}, Rises k l → Rises k m → (∀ key, get k key l = get k key m) → l = m
  | [], [], _, _, _ => rfl
  | [], y :: m, _, _, h => by have := h (k y); unfold get at this; rw [if_pos rfl] at this; cases this
  | x :: l, [], _, _, h => by have := h (k x); unfold get at this; rw [if_pos rfl] at this; cases this
  | x :: l, y :: m, hl, hm, h => by
    have hl' := List.pairwise_cons.1 hl
    have hm' := List.pairwise_cons.1 hm
    have e : x = y := by
      rcases lt_cases (k x) (k y) with h1 | h1 | h1
      · have := h (k x)
        unfold get at this
        rw [if_pos rfl, if_neg (lt_ne h1).symm, get_below (fun z hz => lt_trans h1 (hm'.1 z hz))] at this
        cases this
      · have := h (k x)
        unfold get at this
        rw [if_pos rfl, if_pos h1.symm] at this
        exact Option.some.inj this
      · have := h (k y)
        unfold get at this
        rw [if_pos rfl, if_neg (lt_ne h1).symm, get_below (fun z hz => lt_trans h1 (hl'.1 z hz))] at this
        cases this
    subst e
    rw [ext hl'.2 hm'.2]
    intro key
    have := h key
    unfold get at this
    by_cases hk : k x = key
    · subst hk
      rw [get_below hl'.1, get_below hm'.1]
    · rw [if_neg hk, if_neg hk] at this
      exact this
/-- The pairs that are met: each key once, with what each list has of it. -/
def pairs (ka : α → ByteArray) (kb : β → ByteArray) : List α → List β → List (Option α × Option β)
  | [], [] => []
  | x :: a, [] => (some x, none) :: pairs ka kb a []
  | [], y :: b => (none, some y) :: pairs ka kb [] b
  | x :: a, y :: b =>
    if lt (ka x) (kb y) = true then (some x, none) :: pairs ka kb a (y :: b)
    else if lt (kb y) (ka x) = true then (none, some y) :: pairs ka kb (x :: a) b
    else (some x, some y) :: pairs ka kb a b
termination_by a b => a.length + b.length
variable {ka : α → ByteArray} {kb : β → ByteArray} {kc : γ → ByteArray} {F : Option α → Option β → Option γ}
/-- What a step makes of a pair keeps its key. -/
structure Keeps (ka : α → ByteArray) (kb : β → ByteArray) (kc : γ → ByteArray) (F : Option α → Option β → Option γ) : Prop where
  left : ∀ x y z, F (some x) y = some z → (∀ y', y = some y' → kb y' = ka x) → kc z = ka x
  right : ∀ x y z, F x (some y) = some z → (∀ x', x = some x' → ka x' = kb y) → kc z = kb y
  no : F none none = none
def made (F : Option α → Option β → Option γ) (l : List (Option α × Option β)) : List γ := l.filterMap fun p => F p.1 p.2
theorem made_cons (p : Option α × Option β) (l : List (Option α × Option β)) : made F (p :: l) = (match F p.1 p.2 with | some z => z :: made F l | none => made F l) := by
  unfold made
  rw [List.filterMap_cons]
  cases F p.1 p.2 <;> rfl
theorem get_made_cons {p : Option α × Option β} {l : List (Option α × Option β)} {key : ByteArray} (h : ∀ z, F p.1 p.2 = some z → kc z = key) (h2 : get kc key (made F l) = none) : get kc key (made F (p :: l)) = F p.1 p.2 := by
  rw [made_cons]
  cases e : F p.1 p.2 with
  | none => exact h2
  | some z => show get kc key (z :: made F l) = some z; unfold get; rw [if_pos (h z e)]
theorem get_made_ne {p : Option α × Option β} {l : List (Option α × Option β)} {key : ByteArray} (h : ∀ z, F p.1 p.2 = some z → kc z ≠ key) : get kc key (made F (p :: l)) = get kc key (made F l) := by
  rw [made_cons]
  cases e : F p.1 p.2 with
  | none => rfl
  | some z => show get kc key (z :: made F l) = _; rw [get]; rw [if_neg (h z e)]
theorem made_mem {p : Option α × Option β} {l : List (Option α × Option β)} {z : γ} (h : z ∈ made F (p :: l)) : F p.1 p.2 = some z ∨ z ∈ made F l := by
  rw [made_cons] at h
  cases e : F p.1 p.2 with
  | none => rw [e] at h; exact .inr h
  | some y =>
    rw [e] at h
    rcases List.mem_cons.1 h with rfl | h
    · exact .inl rfl
    · exact .inr h
theorem made_step {p : Option α × Option β} {l : List (Option α × Option β)} {a a' : List α} {b b' : List β} {K : ByteArray} (no : F none none = none) (hz : ∀ z, F p.1 p.2 = some z → kc z = K) (hR : Rises kc (made F l)) (hm : ∀ z ∈ made F l, lt K (kc z) = true)
    (hget : ∀ key, get kc key (made F l) = F (get ka key a') (get kb key b')) (hne : ∀ key, key ≠ K → get ka key a = get ka key a' ∧ get kb key b = get kb key b') (hK : get ka K a = p.1 ∧ get kb K b = p.2) (hK' : get ka K a' = none ∧ get kb K b' = none) :
    Rises kc (made F (p :: l)) ∧ ∀ key, get kc key (made F (p :: l)) = F (get ka key a) (get kb key b) := by
  constructor
  · rw [made_cons]
    cases e : F p.1 p.2 with
    | none => exact hR
    | some z => exact List.pairwise_cons.2 ⟨fun y hy => by rw [hz z e]; exact hm y hy, hR⟩
  · intro key
    by_cases h : key = K
    · subst h
      rw [get_made_cons hz (by rw [hget, hK'.1, hK'.2, no]), hK.1, hK.2]
    · rw [get_made_ne (fun z e => by rw [hz z e]; exact fun q => h q.symm), hget, (hne key h).1, (hne key h).2]
theorem get_cons_ne {k : α → ByteArray} {key : ByteArray} {x : α} {l : List α} (h : key ≠ k x) : get k key (x :: l) = get k key l := by
  rw [get, if_neg (fun e => h e.symm)]
theorem get_cons_eq {k : α → ByteArray} {x : α} {l : List α} : get k (k x) (x :: l) = some x := by rw [get, if_pos rfl]
/-- What is made of all the pairs. -/
theorem pairs_law (hk : Keeps ka kb kc F) : ∀ (n : Nat) (a : List α) (b : List β), a.length + b.length ≤ n → Rises ka a → Rises kb b →
    (Rises kc (made F (pairs ka kb a b)) ∧ ∀ key, get kc key (made F (pairs ka kb a b)) = F (get ka key a) (get kb key b)) ∧ ∀ z ∈ made F (pairs ka kb a b), (∃ x ∈ a, ka x = kc z) ∨ (∃ y ∈ b, kb y = kc z) := by
  intro n
  induction n with
  | zero =>
    intro a b hn _ _
    obtain rfl : a = [] := List.length_eq_zero_iff.1 (by omega)
    obtain rfl : b = [] := List.length_eq_zero_iff.1 (by omega)
    rw [pairs]
    exact ⟨⟨.nil, fun key => hk.no.symm⟩, fun z hz => by cases hz⟩
  | succ n ih =>
    intro a b hn ha hb
    match a, b, hn, ha, hb with
    | [], [], _, _, _ =>
      rw [pairs]
      exact ⟨⟨.nil, fun key => hk.no.symm⟩, fun z hz => by cases hz⟩
    | x :: a, [], hn, ha, hb =>
      have ha' := List.pairwise_cons.1 ha
      obtain ⟨⟨i1, i2⟩, i3⟩ := ih a [] (by simp at hn ⊢; omega) ha'.2 .nil
      rw [pairs]
      have hx : ∀ z ∈ made F (pairs ka kb a []), lt (ka x) (kc z) = true := by
        intro z hz
        rcases i3 z hz with ⟨y, hy, e⟩ | ⟨y, hy, _⟩
        · rw [← e]; exact ha'.1 y hy
        · cases hy
      refine ⟨made_step hk.no (fun z e => hk.left x none z e (fun _ h => by cases h)) i1 hx i2 (fun key h => ⟨get_cons_ne h, rfl⟩) ⟨get_cons_eq, rfl⟩ ⟨get_below ha'.1, rfl⟩, ?_⟩
      intro z hz
      rcases made_mem hz with h | h
      · exact .inl ⟨x, .head _, (hk.left x none z h (fun _ h => by cases h)).symm⟩
      · rcases i3 z h with ⟨y, hy, e⟩ | ⟨y, hy, _⟩
        · exact .inl ⟨y, .tail _ hy, e⟩
        · cases hy
    | [], y :: b, hn, ha, hb =>
      have hb' := List.pairwise_cons.1 hb
      obtain ⟨⟨i1, i2⟩, i3⟩ := ih [] b (by simp at hn ⊢; omega) .nil hb'.2
      rw [pairs]
      have hx : ∀ z ∈ made F (pairs ka kb [] b), lt (kb y) (kc z) = true := by
        intro z hz
        rcases i3 z hz with ⟨x, hx, _⟩ | ⟨x, hx, e⟩
        · cases hx
        · rw [← e]; exact hb'.1 x hx
      have hkey : ∀ z, F none (some y) = some z → kc z = kb y := fun z e => hk.right none y z e (fun _ h => by cases h)
      refine ⟨made_step hk.no hkey i1 hx i2 (fun key h => ⟨rfl, get_cons_ne h⟩) ⟨rfl, get_cons_eq⟩ ⟨rfl, get_below hb'.1⟩, ?_⟩
      intro z hz
      rcases made_mem hz with h | h
      · exact .inr ⟨y, .head _, (hkey z h).symm⟩
      · rcases i3 z h with ⟨x, hx, _⟩ | ⟨x, hx, e⟩
        · cases hx
        · exact .inr ⟨x, .tail _ hx, e⟩
    | x :: a, y :: b, hn, ha, hb =>
      have ha' := List.pairwise_cons.1 ha
      have hb' := List.pairwise_cons.1 hb
      rw [pairs]
      by_cases h1 : lt (ka x) (kb y) = true
      · rw [if_pos h1]
        obtain ⟨⟨i1, i2⟩, i3⟩ := ih a (y :: b) (by simp at hn ⊢; omega) ha'.2 hb
        have hbx : ∀ z ∈ y :: b, lt (ka x) (kb z) = true := by
          intro z hz
          rcases List.mem_cons.1 hz with rfl | hz
          · exact h1
          · exact lt_trans h1 (hb'.1 z hz)
        have hx : ∀ z ∈ made F (pairs ka kb a (y :: b)), lt (ka x) (kc z) = true := by
          intro z hz
          rcases i3 z hz with ⟨u, hu, e⟩ | ⟨u, hu, e⟩
          · rw [← e]; exact ha'.1 u hu
          · rw [← e]; exact hbx u hu
        refine ⟨made_step hk.no (fun z e => hk.left x none z e (fun _ h => by cases h)) i1 hx i2 (fun key h => ⟨get_cons_ne h, rfl⟩) ⟨get_cons_eq, get_below hbx⟩ ⟨get_below ha'.1, get_below hbx⟩, ?_⟩
        intro z hz
        rcases made_mem hz with h | h
        · exact .inl ⟨x, .head _, (hk.left x none z h (fun _ h => by cases h)).symm⟩
        · rcases i3 z h with ⟨u, hu, e⟩ | ⟨u, hu, e⟩
          · exact .inl ⟨u, .tail _ hu, e⟩
          · exact .inr ⟨u, hu, e⟩
      · rw [if_neg h1]
        by_cases h2 : lt (kb y) (ka x) = true
        · rw [if_pos h2]
          obtain ⟨⟨i1, i2⟩, i3⟩ := ih (x :: a) b (by simp at hn ⊢; omega) ha hb'.2
          have hax : ∀ z ∈ x :: a, lt (kb y) (ka z) = true := by
            intro z hz
            rcases List.mem_cons.1 hz with rfl | hz
            · exact h2
            · exact lt_trans h2 (ha'.1 z hz)
          have hx : ∀ z ∈ made F (pairs ka kb (x :: a) b), lt (kb y) (kc z) = true := by
            intro z hz
            rcases i3 z hz with ⟨u, hu, e⟩ | ⟨u, hu, e⟩
            · rw [← e]; exact hax u hu
            · rw [← e]; exact hb'.1 u hu
          have hkey : ∀ z, F none (some y) = some z → kc z = kb y := fun z e => hk.right none y z e (fun _ h => by cases h)
          refine ⟨made_step hk.no hkey i1 hx i2 (fun key h => ⟨rfl, get_cons_ne h⟩) ⟨get_below hax, get_cons_eq⟩ ⟨get_below hax, get_below hb'.1⟩, ?_⟩
          intro z hz
          rcases made_mem hz with h | h
          · exact .inr ⟨y, .head _, (hkey z h).symm⟩
          · rcases i3 z h with ⟨u, hu, e⟩ | ⟨u, hu, e⟩
            · exact .inl ⟨u, hu, e⟩
            · exact .inr ⟨u, .tail _ hu, e⟩
        · rw [if_neg h2]
          have he : ka x = kb y := lt_tot (by simpa using h1) (by simpa using h2)
          obtain ⟨⟨i1, i2⟩, i3⟩ := ih a b (by simp at hn ⊢; omega) ha'.2 hb'.2
          have hx : ∀ z ∈ made F (pairs ka kb a b), lt (ka x) (kc z) = true := by
            intro z hz
            rcases i3 z hz with ⟨u, hu, e⟩ | ⟨u, hu, e⟩
            · rw [← e]; exact ha'.1 u hu
            · rw [← e, he]; exact hb'.1 u hu
          refine ⟨made_step hk.no (fun z e => hk.left x (some y) z e (fun y' h => by cases h; exact he.symm)) i1 hx i2 (fun key h => ⟨get_cons_ne h, get_cons_ne (by rw [← he]; exact h)⟩) ⟨get_cons_eq, by rw [he]; exact get_cons_eq⟩ ⟨get_below ha'.1, by rw [he]; exact get_below hb'.1⟩, ?_⟩
          intro z hz
          rcases made_mem hz with h | h
          · exact .inl ⟨x, .head _, (hk.left x (some y) z h (fun y' h => by cases h; exact he.symm)).symm⟩
          · rcases i3 z h with ⟨u, hu, e⟩ | ⟨u, hu, e⟩
            · exact .inl ⟨u, .tail _ hu, e⟩
            · exact .inr ⟨u, .tail _ hu, e⟩
theorem made_rises (hk : Keeps ka kb kc F) {a : List α} {b : List β} (ha : Rises ka a) (hb : Rises kb b) : Rises kc (made F (pairs ka kb a b)) := (pairs_law hk _ a b (Nat.le_refl _) ha hb).1.1
theorem made_get (hk : Keeps ka kb kc F) {a : List α} {b : List β} (ha : Rises ka a) (hb : Rises kb b) (key : ByteArray) : get kc key (made F (pairs ka kb a b)) = F (get ka key a) (get kb key b) := (pairs_law hk _ a b (Nat.le_refl _) ha hb).1.2 key
/-- The pairs that don't fit. -/
def missF (ka : α → ByteArray) (kb : β → ByteArray) (fit : Option α → Option β → Bool) : Option α → Option β → Option (ByteArray × Option α × Option β)
  | some x, y => if fit (some x) y = true then none else some (ka x, some x, y)
  | none, some y => if fit none (some y) = true then none else some (kb y, none, some y)
  | none, none => none
theorem miss_keeps (fit : Option α → Option β → Bool) : Keeps ka kb (fun z : ByteArray × Option α × Option β => z.1) (missF ka kb fit) := by
  refine ⟨?_, ?_, rfl⟩
  · intro x y z h _
    simp only [missF] at h
    by_cases hf : fit (some x) y = true
    · rw [if_pos hf] at h; cases h
    · rw [if_neg hf] at h; cases h; rfl
  · intro x y z h hx
    cases x with
    | none =>
      simp only [missF] at h
      by_cases hf : fit none (some y) = true
      · rw [if_pos hf] at h; cases h
      · rw [if_neg hf] at h; cases h; rfl
    | some x =>
      simp only [missF] at h
      by_cases hf : fit (some x) (some y) = true
      · rw [if_pos hf] at h; cases h
      · rw [if_neg hf] at h; cases h; exact hx x rfl
theorem miss_none (fit : Option α → Option β → Bool) (no : fit none none = true) (x : Option α) (y : Option β) : missF ka kb fit x y = none ↔ fit x y = true := by
  cases x with
  | none =>
    cases y with
    | none => exact ⟨fun _ => no, fun _ => rfl⟩
    | some y => simp only [missF]; by_cases hf : fit none (some y) = true <;> simp [hf]
  | some x => simp only [missF]; by_cases hf : fit (some x) y = true <;> simp [hf]
/-- All pairs fit just if at each key what stands there does. -/
theorem pairs_all {fit : Option α → Option β → Bool} (no : fit none none = true) {a : List α} {b : List β} (ha : Rises ka a) (hb : Rises kb b) :
    (pairs ka kb a b).all (fun p => fit p.1 p.2) = true ↔ ∀ key, fit (get ka key a) (get kb key b) = true := by
  have hg := made_get (miss_keeps (ka := ka) (kb := kb) fit) ha hb
  constructor
  · intro h key
    have hm : made (missF ka kb fit) (pairs ka kb a b) = [] := by
      unfold made
      rw [List.filterMap_eq_nil_iff]
      intro p hp
      exact (miss_none fit no _ _).2 (List.all_eq_true.1 h p hp)
    have := hg key
    rw [hm] at this
    exact (miss_none fit no _ _).1 this.symm
  · intro h
    rw [List.all_eq_true]
    intro p hp
    rw [← miss_none (ka := ka) (kb := kb) fit no]
    cases e : missF ka kb fit p.1 p.2 with
    | none => rfl
    | some z =>
      have hz : z ∈ made (missF ka kb fit) (pairs ka kb a b) := List.mem_filterMap.2 ⟨p, hp, e⟩
      have h1 := get_mem (made_rises (miss_keeps (ka := ka) (kb := kb) fit) ha hb) z hz
      rw [hg, (miss_none fit no _ _).2 (h z.1)] at h1
      cases h1
end
/-! The pairs, one by one (for the walk). -/
section
variable {α β : Type} {ka : α → ByteArray} {kb : β → ByteArray} {x : α} {y : β} {a : List α} {b : List β}
theorem pairs_nil : pairs ka kb [] [] = [] := by rw [pairs]
theorem pairs_nl : pairs ka kb (x :: a) [] = (some x, none) :: pairs ka kb a [] := by rw [pairs]
theorem pairs_nr : pairs ka kb [] (y :: b) = (none, some y) :: pairs ka kb [] b := by rw [pairs]
theorem pairs_lt (h : lt (ka x) (kb y) = true) : pairs ka kb (x :: a) (y :: b) = (some x, none) :: pairs ka kb a (y :: b) := by rw [pairs, if_pos h]
theorem pairs_gt (h : lt (ka x) (kb y) = false) (h2 : lt (kb y) (ka x) = true) : pairs ka kb (x :: a) (y :: b) = (none, some y) :: pairs ka kb (x :: a) b := by
  rw [pairs, if_neg (by rw [h]; decide), if_pos h2]
theorem pairs_eq (h : lt (ka x) (kb y) = false) (h2 : lt (kb y) (ka x) = false) : pairs ka kb (x :: a) (y :: b) = (some x, some y) :: pairs ka kb a b := by
  rw [pairs, if_neg (by rw [h]; decide), if_neg (by rw [h2]; decide)]
theorem pairs_len : ∀ (n : Nat) (a : List α) (b : List β), a.length + b.length ≤ n → (pairs ka kb a b).length ≤ a.length + b.length := by
  intro n
  induction n with
  | zero =>
    intro a b hn
    obtain rfl : a = [] := List.length_eq_zero_iff.1 (by omega)
    obtain rfl : b = [] := List.length_eq_zero_iff.1 (by omega)
    rw [pairs_nil]; simp
  | succ n ih =>
    intro a b hn
    match a, b, hn with
    | [], [], _ => rw [pairs_nil]; simp
    | x :: a, [], hn => rw [pairs_nl]; have := ih a [] (by simp at hn ⊢; omega); simp at this ⊢; omega
    | [], y :: b, hn => rw [pairs_nr]; have := ih [] b (by simp at hn ⊢; omega); simp at this ⊢; omega
    | x :: a, y :: b, hn =>
      cases h1 : lt (ka x) (kb y) with
      | true => rw [pairs_lt h1]; have := ih a (y :: b) (by simp at hn ⊢; omega); simp at this ⊢; omega
      | false =>
        cases h2 : lt (kb y) (ka x) with
        | true => rw [pairs_gt h1 h2]; have := ih (x :: a) b (by simp at hn ⊢; omega); simp at this ⊢; omega
        | false => rw [pairs_eq h1 h2]; have := ih a b (by simp at hn ⊢; omega); simp at this ⊢; omega
theorem done_lt {dn r : List (Option α × Option β)} {p : Option α × Option β} (h : dn ++ p :: r = pairs ka kb a b) : dn.length < a.length + b.length := by
  have h1 := pairs_len (ka := ka) (kb := kb) _ a b (Nat.le_refl _)
  rw [← h, List.length_append, List.length_cons] at h1
  omega
end
theorem cb_cases (a b : ByteArray) : (Lib.compareBytes a.data.toList b.data.toList < 0 ∧ lt a b = true) ∨ (0 < Lib.compareBytes a.data.toList b.data.toList ∧ lt a b = false ∧ lt b a = true) ∨ (Lib.compareBytes a.data.toList b.data.toList = 0 ∧ lt a b = false ∧ lt b a = false) := by
  have key : ∀ l m : List UInt8, (Lib.compareBytes l m < 0 ∧ Op.bytesLess l m = true) ∨ (0 < Lib.compareBytes l m ∧ Op.bytesLess l m = false ∧ Op.bytesLess m l = true) ∨ (Lib.compareBytes l m = 0 ∧ Op.bytesLess l m = false ∧ Op.bytesLess m l = false) := by
    intro l
    induction l with
    | nil => intro m; cases m <;> simp [Lib.compareBytes, Op.bytesLess]
    | cons x l ih =>
      intro m
      cases m with
      | nil => simp [Lib.compareBytes, Op.bytesLess]
      | cons y m =>
        simp only [Lib.compareBytes, Op.bytesLess]
        by_cases h1 : x < y
        · simp [h1]
        · by_cases h2 : y < x
          · have h3 : ¬ x = y := fun e => by subst e; exact h1 h2
            simp [h1, h2, h3]
          · have h3 : x = y := by
              have q1 : ¬ x.toNat < y.toNat := fun h => h1 (UInt8.lt_iff_toNat_lt.mpr h)
              have q2 : ¬ y.toNat < x.toNat := fun h => h2 (UInt8.lt_iff_toNat_lt.mpr h)
              exact UInt8.toNat_inj.mp (by omega)
            subst h3
            have := ih m
            simpa [h1] using this
  have := key a.toList b.toList
  simp only [ByteArray.toList_eq] at this
  simp only [lt, ByteArray.toList_eq]
  exact this
section
variable {α β γ : Type} {F : Option α → Option β → Option γ} {dn : List (Option α × Option β)} {x : Option α} {y : Option β}
theorem made_some {z : γ} (h : F x y = some z) : made F (dn ++ [(x, y)]) = made F dn ++ [z] := by
  unfold made; rw [List.filterMap_append]; congr 1; simp [h]
theorem made_none (h : F x y = none) : made F (dn ++ [(x, y)]) = made F dn := by
  unfold made; rw [List.filterMap_append]; simp [h]
theorem made_len : (made F dn).length ≤ dn.length := List.length_filterMap_le ..
end
theorem beq_dec (a b : ByteArray) : (a.toList == b.toList) = decide (a = b) := by
  rw [Bool.eq_iff_iff, beq_iff_eq, decide_eq_true_iff]
  exact ⟨toList_inj, fun e => by rw [e]⟩
end Go.Proofs.Ytcocddpknkklhaa.MergeP
