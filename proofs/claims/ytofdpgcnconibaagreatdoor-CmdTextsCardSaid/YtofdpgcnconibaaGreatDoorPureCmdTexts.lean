/- CmdTexts: records of commands, and commands of records, are the document's, and an error is told of its record: for all commands and all bytes (the law itself lets go more than 300 commands, long texts, and more than 2^14 bytes). -/
import Derived.Test.YtofdpgcnconibaaGreatDoorPAx34
import Derived.Test.YtofdpgcnconibaaGreatDoorCmdY
set_option linter.unusedVariables false
set_option linter.unusedSimpArgs false
namespace Go.Proofs.YtofdpgcnconibaaGreatDoor.Pure
open Go.RowKit Go.Proofs.YtofdpgcnconibaaGreatDoor.PA Go.Proofs.YtofdpgcnconibaaGreatDoorW.PrintWords Go.Proofs.YtofdpgcnconibaaGreatDoorW.PrintLast
open Go.Proofs.YtofdpgcnconibaaGreatDoor.Plain Go.Proofs.YtofdpgcnconibaaGreatDoor.CmdP Go.Proofs.YtofdpgcnconibaaGreatDoor.PathP
theorem tells_none : coppicelaw19_tells.f 0 0 0 0 (-1) = some true := by decide
theorem tells_rec (c i : Int) (h : c ≠ 0) : coppicelaw19_tells.f c 0 i c i = some true := by
  unfold coppicelaw19_tells.f
  rw [if_neg h]
  simp
theorem texts_j2 (s : ByteArray) (hs : s.size ≤ 16384) (k : Nat) (hk : 2200000 ≤ k) : coppicelaw19_CmdTexts.j2 (k + 1) s = some true := by
  simp only [coppicelaw19_CmdTexts.j2]
  obtain ⟨⟨l, r⟩, q1, q2, q3⟩ := all_both s.size s [] k (Nat.le_refl _) (by omega) (by simp; omega) (by omega)
  have h1 : cmd_all.f k s = some (l, r) := q1
  have h2 : coppiceref19_All.f k s = some (docL (l, r)) := q2
  rw [All_f k s l r h1, Option.bind_some, h2, Option.bind_some]
  rcases q3 with ⟨e, m, e1, e2, e3, e4⟩ | ⟨c, i, hc, e⟩
  · have e : r = none := e
    have e1 : l = m := by simpa using e1
    subst e; subst e1
    have e2 : l.length ≤ s.size := e2
    show (coppiceref19_Same.f k l l).bind _ = _
    rw [same_f l (by omega) k (by omega), Option.bind_some, if_pos rfl]
    show (coppicelaw19_tells.f 0 0 0 0 (-1)).bind _ = _
    rw [tells_none, Option.bind_some, if_pos rfl]
    show (cmd_Text.f k l).bind _ = _
    rw [cText_f k (by omega) l (fun x hx => (e3 x hx).1) (by omega), Option.bind_some, textR_good l 0 [] (fun x hx => (e3 x hx).2)]
    show (if (0 : Int) = 0 then if (0 : Int) = 0 then some (((⟨#[]⟩ : ByteArray) ++ recs l).toList == s.toList) else some false else some true) = some true
    rw [if_pos rfl, if_pos rfl, e4, empty_append]
    simp
  · obtain ⟨rfl, rfl⟩ : l = [] ∧ r = some (c, i) := by simpa using e
    show (coppiceref19_Same.f k [] []).bind _ = _
    rw [same_f [] (by simp) k (by omega), Option.bind_some, if_pos rfl]
    show (coppicelaw19_tells.f c 0 i c i).bind _ = _
    rw [tells_rec c i (by omega), Option.bind_some, if_pos rfl]
    show (cmd_Text.f k []).bind _ = _
    rw [cText_f k (by omega) [] (fun x hx => by cases hx) (by simp), Option.bind_some]
    show (if c = 0 then _ else some true) = some true
    rw [if_neg (by omega)]
theorem texts_j1 (l : List Cm) (hl : ∀ x ∈ l, Small x) (hg : ∀ x ∈ l, goodC x = true) (hz : l.length ≤ 300) (s : ByteArray) (hs : s.size ≤ 16384) (k : Nat) (hk : 2200001 ≤ k) :
    coppicelaw19_CmdTexts.j1 (k + 1) l s (recs l) false 0 0 0 = some true := by
  obtain ⟨k, rfl⟩ : ∃ q, k = q + 1 := ⟨k - 1, by omega⟩
  have hj := texts_j2 s hs k (by omega)
  rw [coppicelaw19_CmdTexts.j1, if_neg (by decide), if_pos rfl]
  have ha := all_recs l [] (k + 1) (fun x hx => ⟨hl x hx, hg x hx⟩) (by simp; omega) (by omega)
  rw [List.nil_append] at ha
  have h1 : cmd_all.f (k + 1) (recs l) = some (l, none) := ha
  rw [All_f (k + 1) (recs l) l none h1, Option.bind_some]
  show (if (0 : Int) = 0 then (coppiceref19_Same.f (k + 1) l l).bind _ else _) = _
  rw [if_pos rfl, same_f l (by omega) (k + 1) (by omega), Option.bind_some, if_pos rfl]
  exact hj
theorem texts_j1_bad (l : List Cm) (s : ByteArray) (hs : s.size ≤ 16384) (j : Int) (k : Nat) (hk : 2200001 ≤ k) :
    coppicelaw19_CmdTexts.j1 (k + 1) l s ⟨#[]⟩ false 190 0 j = some true := by
  obtain ⟨k, rfl⟩ : ∃ q, k = q + 1 := ⟨k - 1, by omega⟩
  have hj := texts_j2 s hs k (by omega)
  rw [coppicelaw19_CmdTexts.j1, if_neg (by decide), if_neg (by decide)]
  exact hj
theorem CmdTexts : coppicelaw19_CmdTexts.Pure := by
  intro l s hl _
  refine ⟨3000000, ?_⟩
  unfold coppicelaw19_CmdTexts.f
  rw [awake19 _ (by omega), Option.bind_some, if_pos rfl]
  have yes : coppicelaw19_CmdTexts.j0 3000000 l s true = some true := by
    rw [show (3000000 : Nat) = 2999999 + 1 from rfl, coppicelaw19_CmdTexts.j0, if_pos rfl]
  rcases great_f l 3000000 (by omega) with h | ⟨h, h1, h2⟩
  · rw [h, Option.bind_some, if_pos rfl]; exact yes
  rw [h, Option.bind_some, if_neg (by decide)]
  by_cases hs : (s.size : Int) > 16384
  · rw [decide_eq_true hs]; exact yes
  rw [decide_eq_false hs]
  have hsm : ∀ x ∈ l, Small x := by
    intro x hx
    have a := h2 x hx
    have := (hl.2 x hx).2.2.2.2.1
    simp [Lit.wf, IntKind.min, IntKind.max, IntKind.signed, IntKind.bits] at this
    exact ⟨⟨by omega, by omega, by omega, by omega⟩, by omega⟩
  rw [show (3000000 : Nat) = 2999999 + 1 from rfl, coppicelaw19_CmdTexts.j0, if_neg (by decide), Option.bind_some, if_pos (by simp; omega), List.nil_append]
  have hc := cText_f 2999999 (by omega) l hsm (by omega)
  have hd := rText_f 2999999 (by omega) l hsm (by omega)
  rcases textR_code l 0 [] with h3 | ⟨j, -, h3⟩
  · have hg := textR_none l 0 [] h3
    rw [textR_good l 0 [] hg] at hc hd
    have hc' : cmd_Text.f 2999999 l = some (recs l, 0, 0, 0) := by rw [hc]; show some ((⟨#[]⟩ : ByteArray) ++ recs l, _) = _; rw [empty_append]; rfl
    have hd' : coppiceref19_Text.f 2999999 l = some (recs l, 0, -1) := by rw [hd]; show some ((⟨#[]⟩ : ByteArray) ++ recs l, _) = _; rw [empty_append]
    rw [hc', Option.bind_some, hd', Option.bind_some, if_pos rfl, tells_none, Option.bind_some]
    exact texts_j1 l hsm hg h1 s (by omega) 2999998 (by omega)
  · rw [h3] at hc hd
    have hc' : cmd_Text.f 2999999 l = some (⟨#[]⟩, 190, 0, j) := hc
    have hd' : coppiceref19_Text.f 2999999 l = some (⟨#[]⟩, 190, j) := hd
    rw [hc', Option.bind_some, hd', Option.bind_some, if_pos rfl, tells_rec 190 j (by decide), Option.bind_some]
    exact texts_j1_bad l s (by omega) j 2999998 (by omega)
end Go.Proofs.YtofdpgcnconibaaGreatDoor.Pure
