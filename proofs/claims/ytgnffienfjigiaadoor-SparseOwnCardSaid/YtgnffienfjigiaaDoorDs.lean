import Derived.Test.YtgnffienfjigiaaDoorWWords
import Derived.Test.YtgnffienfjigiaaDoorWLast
/-! One block that a state's calls turn, and others of the call's own, known whole. -/
set_option linter.unusedVariables false
namespace Go.Proofs.YtgnffienfjigiaaDoor.Plain
open Go.RowKit Go.Proofs.YtgnffienfjigiaaDoorW.PrintWords Go.Proofs.YtgnffienfjigiaaDoorW.PrintLast
/-- Block r is o; the blocks 'own' are as listed, apart from it and from one another, all made since w0. -/
structure DS (w0 W : World) (r : Nat) (o : Obj) (own : List (Nat × Obj)) : Prop where
  hr : W.heap[r]? = some o
  all : ∀ x ∈ own, W.heap[x.1]? = some x.2
  ne : ∀ x ∈ own, x.1 ≠ r
  ge : ∀ x ∈ own, w0.heap.size ≤ x.1
  rge : w0.heap.size ≤ r
  nd : own.Pairwise (fun x y => x.1 ≠ y.1)
  hB : Below w0.heap.size w0 W
namespace DS
variable {w0 W W' : World} {r g : Nat} {o ob : Obj} {own : List (Nat × Obj)}
theorem start {w1 : World} (hb1 : Below w0.heap.size w0 w1) (hR : w1.heap[g]? = some ob) (hg : w0.heap.size ≤ g) (hI : W.heap[r]? = some o) (hr : w1.heap.size ≤ r) (hb : Below w1.heap.size w1 W) : DS w0 W r o [(g, ob)] := by
  have hlt := blk_lt hR
  refine ⟨hI, ?_, ?_, ?_, by have := hb1.size; omega, by simp, below_then hb1 hb1.size hb⟩
  · intro x hx; rw [List.mem_singleton] at hx; subst hx; exact blk_below hR hb
  · intro x hx; rw [List.mem_singleton] at hx; subst hx; show g ≠ r; omega
  · intro x hx; rw [List.mem_singleton] at hx; subst hx; exact hg
theorem below (h : DS w0 W r o own) (hb : Below W.heap.size W W') : DS w0 W' r o own :=
  ⟨blk_below h.hr hb, fun x hx => blk_below (h.all x hx) hb, h.ne, h.ge, h.rge, h.nd, below_then h.hB h.hB.size hb⟩
theorem drew (h : DS w0 W r o own) : DS w0 W.drew r o own := ⟨h.hr, h.all, h.ne, h.ge, h.rge, h.nd, h.hB.drew⟩
theorem drewN (h : DS w0 W r o own) (n : Nat) : DS w0 (W.drewN n) r o own := ⟨h.hr, h.all, h.ne, h.ge, h.rge, h.nd, pw_below_drewN h.hB n⟩
/-- A call that turns r. -/
theorem keep {o' : Obj} (h : DS w0 W r o own) (hk : KeepBut W W' r none) (hr : W'.heap[r]? = some o') (hB : Below w0.heap.size w0 W') : DS w0 W' r o' own :=
  ⟨hr, fun x hx => hk.blk (h.all x hx) (h.ne x hx) (by simp), h.ne, h.ge, h.rge, h.nd, hB⟩
/-- A new block. -/
theorem box (h : DS w0 W r o own) (ob : Obj) : DS w0 (W.alloc ob) r o ((W.heap.size, ob) :: own) := by
  have hs := h.hB.size
  refine ⟨blk_alloc h.hr _, ?_, ?_, ?_, h.rge, ?_, h.hB.alloc hs _⟩
  · intro x hx
    rcases List.mem_cons.1 hx with rfl | hx
    · exact blk_new W ob
    · exact blk_alloc (h.all x hx) _
  · intro x hx
    rcases List.mem_cons.1 hx with rfl | hx
    · have := blk_lt h.hr; show W.heap.size ≠ r; omega
    · exact h.ne x hx
  · intro x hx
    rcases List.mem_cons.1 hx with rfl | hx
    · exact hs
    · exact h.ge x hx
  · rw [List.pairwise_cons]
    refine ⟨fun x hx => ?_, h.nd⟩
    have := blk_lt (h.all x hx)
    show W.heap.size ≠ x.1
    omega
theorem drop {x : Nat × Obj} (h : DS w0 W r o (x :: own)) : DS w0 W r o own :=
  ⟨h.hr, fun y hy => h.all y (.tail _ hy), fun y hy => h.ne y (.tail _ hy), fun y hy => h.ge y (.tail _ hy), h.rge, (List.pairwise_cons.1 h.nd).2, h.hB⟩
/-- Another reader is made: it takes the first one's place. -/
theorem next (h : DS w0 W r o own) (hn : W'.heap[g]? = some ob) (hg : W.heap.size ≤ g) (hb : Below W.heap.size W W') : DS w0 W' g ob ((r, o) :: own) := by
  have hlt := blk_lt h.hr
  have hs := h.hB.size
  refine ⟨hn, ?_, ?_, ?_, by omega, ?_, below_then h.hB hs hb⟩
  · intro x hx
    rcases List.mem_cons.1 hx with rfl | hx
    · exact blk_below h.hr hb
    · exact blk_below (h.all x hx) hb
  · intro x hx
    rcases List.mem_cons.1 hx with rfl | hx
    · show r ≠ g; omega
    · have := blk_lt (h.all x hx); omega
  · intro x hx
    rcases List.mem_cons.1 hx with rfl | hx
    · exact h.rge
    · exact h.ge x hx
  · rw [List.pairwise_cons]
    exact ⟨fun x hx => (h.ne x hx).symm, h.nd⟩
/-- A call that may turn a listed block, and leaves it as it was. -/
theorem other (h : DS w0 W r o own) (hm : (g, ob) ∈ own) (hk : KeepBut W W' g none) (hn : W'.heap[g]? = some ob) (hB : Below w0.heap.size w0 W') : DS w0 W' r o own := by
  refine ⟨hk.blk h.hr (h.ne _ hm).symm (by simp), ?_, h.ne, h.ge, h.rge, h.nd, hB⟩
  intro x hx
  by_cases e : x.1 = g
  · rw [e, hn]
    have h1 := h.all x hx
    rw [e, h.all _ hm] at h1
    exact h1
  · exact hk.blk (h.all x hx) e (by simp)
theorem blk (h : DS w0 W r o own) (hm : (g, ob) ∈ own) : W.heap[g]? = some ob := h.all _ hm
theorem since (h : DS w0 W r o own) (hm : (g, ob) ∈ own) : w0.heap.size ≤ g := h.ge _ hm
theorem lt (h : DS w0 W r o own) (hm : (g, ob) ∈ own) : g < W.heap.size := blk_lt (h.all _ hm)
theorem cell {cs : Array Value} {t : TypeId} (h : DS w0 W r o own) (hm : (g, .cells cs t (0, 0)) ∈ own) (i : Nat) : W.cell? ⟨g, i, none⟩ = cs[i]? := blk_cell (h.all _ hm) i
theorem fro {cs : Array Value} {t : TypeId} (h : DS w0 W r o own) (hm : (g, .cells cs t (0, 0)) ∈ own) (i : Nat) : W.frozen? ⟨g, i, none⟩ = false := blk_frozen (h.all _ hm) i
/-- A store into a listed block. -/
theorem set {cs cs' : Array Value} {t : TypeId} {post : List (Nat × Obj)} (pre : List (Nat × Obj)) (h : DS w0 W r o (pre ++ (g, .cells cs t (0, 0)) :: post)) (i : Nat) (v : Value) (e : cs.setIfInBounds i v = cs') :
    DS w0 (W.setCell ⟨g, i, none⟩ v) r o (pre ++ (g, .cells cs' t (0, 0)) :: post) := by
  have hm : (g, Obj.cells cs t (0, 0)) ∈ pre ++ (g, .cells cs t (0, 0)) :: post := List.mem_append_right _ (.head _)
  have hnd := h.nd
  rw [List.pairwise_append, List.pairwise_cons] at hnd
  obtain ⟨n1, ⟨n2, n3⟩, n4⟩ := hnd
  have key : ∀ k, k ≠ g → (W.setCell ⟨g, i, none⟩ v).heap[k]? = W.heap[k]? := fun k hk => Below.heap_setCell W ⟨g, i, none⟩ v k hk
  have mem' : ∀ x ∈ pre ++ (g, Obj.cells cs' t (0, 0)) :: post, x = (g, Obj.cells cs' t (0, 0)) ∨ (x ∈ pre ++ (g, .cells cs t (0, 0)) :: post ∧ x.1 ≠ g) := by
    intro x hx
    rcases List.mem_append.1 hx with hx | hx
    · exact .inr ⟨List.mem_append_left _ hx, n4 x hx _ (.head _)⟩
    · rcases List.mem_cons.1 hx with rfl | hx
      · exact .inl rfl
      · exact .inr ⟨List.mem_append_right _ (.tail _ hx), (n2 x hx).symm⟩
  refine ⟨(key r (h.ne _ hm).symm).trans h.hr, ?_, ?_, ?_, h.rge, ?_, h.hB.setCell (h.ge _ hm) _⟩
  · intro x hx
    rcases mem' x hx with rfl | ⟨hx, hne⟩
    · exact blk_put (h.all _ hm) i v e
    · exact (key _ hne).trans (h.all x hx)
  · intro x hx
    rcases mem' x hx with rfl | ⟨hx, hne⟩
    · exact show g ≠ r from h.ne _ hm
    · exact h.ne x hx
  · intro x hx
    rcases mem' x hx with rfl | ⟨hx, hne⟩
    · exact show w0.heap.size ≤ g from h.ge _ hm
    · exact h.ge x hx
  · rw [List.pairwise_append, List.pairwise_cons]
    refine ⟨n1, ⟨fun y hy => n2 y hy, n3⟩, fun x hx y hy => ?_⟩
    rcases List.mem_cons.1 hy with rfl | hy
    · exact n4 x hx (g, .cells cs t (0, 0)) (.head _)
    · exact n4 x hx y (.tail _ hy)
/-- All six cells of a listed block are stored. -/
theorem set6 {x0 x1 x2 x3 x4 x5 : Value} {t : TypeId} {post : List (Nat × Obj)} (pre : List (Nat × Obj)) (h : DS w0 W r o (pre ++ (g, .cells #[x0, x1, x2, x3, x4, x5] t (0, 0)) :: post)) (y0 y1 y2 y3 y4 y5 : Value) :
    DS w0 ((((((W.setCell ⟨g, 0, none⟩ y0).setCell ⟨g, 1, none⟩ y1).setCell ⟨g, 2, none⟩ y2).setCell ⟨g, 3, none⟩ y3).setCell ⟨g, 4, none⟩ y4).setCell ⟨g, 5, none⟩ y5) r o (pre ++ (g, .cells #[y0, y1, y2, y3, y4, y5] t (0, 0)) :: post) :=
  (((((h.set pre 0 y0 rfl).set pre 1 y1 rfl).set pre 2 y2 rfl).set pre 3 y3 rfl).set pre 4 y4 rfl).set pre 5 y5 rfl
end DS
end Go.Proofs.YtgnffienfjigiaaDoor.Plain
