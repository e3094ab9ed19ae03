import Derived.Test.YtdkbikaheagbfaaPTx10
import Derived.Test.YtdkbikaheagbfaaNodeB
/-! Nodes: checked, measured, written. -/
set_option linter.unusedVariables false
set_option linter.unusedSectionVars false
set_option linter.unusedSimpArgs false
namespace Go.Proofs.Ytdkbikaheagbfaa.NodeP
open Go.RowKit Go.Proofs.Ytdkbikaheagbfaa.PT Go.Proofs.YtdkbikaheagbfaaW.PrintWords Go.Proofs.YtdkbikaheagbfaaW.PrintLast Go.Proofs.YtdkbikaheagbfaaW.PrintMore
open Go.Proofs.Ytdkbikaheagbfaa.Plain
section
variable (a : Bool) (l : List S44) (m : List S46) (hs : small l m)
/-- How many bytes; may it stand in a block; its bytes. -/
def sizeR : Int := if rightB a l m = true then ((refBytes a l m).length : Int) else 0
def checkR : Int := if rightB a l m = true then (if ((refBytes a l m).length : Int) > 1007 then 61 else 0) else 60
def encR : ByteArray × Int := if checkR a l m = 0 then (ofL (refBytes a l m), 0) else (⟨#[]⟩, checkR a l m)
theorem refBytes_pos : 1 ≤ (refBytes a l m).length := by simp only [refBytes, List.length_append, List.length_cons, List.length_nil]; omega
theorem checkR_ok (h : checkR a l m = 0) : rightB a l m = true ∧ (refBytes a l m).length ≤ 1007 := by
  unfold checkR at h
  by_cases c : rightB a l m = true
  · rw [if_pos c] at h
    by_cases c2 : ((refBytes a l m).length : Int) > 1007
    · rw [if_pos c2] at h; cases h
    · exact ⟨c, by omega⟩
  · rw [if_neg c] at h; cases h
include hs
theorem nsize_ok : node_Size.f a l m = some (sizeR a l m) := by
  unfold node_Size.f sizeR
  rw [nright_ok a l m (by have := hs.1; omega) (by have := hs.2.1; omega), Option.bind_some]
  by_cases c : rightB a l m = true
  · rw [if_pos c, if_pos c, written_ok a l m hs c, Option.bind_some, ofL_size]
  · rw [if_neg c, if_neg c]
theorem ncheck_ok : node_Check.f a l m = some (checkR a l m) := by
  unfold node_Check.f checkR
  rw [nsize_ok a l m hs, Option.bind_some]
  unfold sizeR
  have := refBytes_pos a l m
  by_cases c : rightB a l m = true
  · rw [if_pos c, if_pos c, if_neg (by omega)]
    split <;> rfl
  · rw [if_neg c, if_neg c, if_pos rfl]
theorem nencode_ok : node_Encode.f a l m = some (encR a l m) := by
  unfold node_Encode.f encR
  rw [ncheck_ok a l m hs, Option.bind_some]
  by_cases c : checkR a l m = 0
  · rw [if_pos c, if_pos c, written_ok a l m hs (checkR_ok a l m c).1, Option.bind_some]
  · rw [if_neg c, if_neg c]
end
theorem awake_ok : coppicelaw06_awake.f = some true := by
  unfold coppicelaw06_awake.f
  have e1 : node_Encode.f true [(⟨⟨#[97]⟩, ⟨#[98]⟩⟩ : S44)] [] = some (ofL [1, 1, 1, 97, 1, 98], 0) := by
    rw [nencode_ok _ _ _ ⟨by decide, by decide, by decide, by decide⟩]; decide +kernel
  have e2 : node_Encode.f false [] [(⟨⟨#[97]⟩, 5⟩ : S46)] = some (ofL [2, 1, 1, 97, 5], 0) := by
    rw [nencode_ok _ _ _ ⟨by decide, by decide, by decide, by decide⟩]; decide +kernel
  rw [e1, Option.bind_some, e2, Option.bind_some, if_pos rfl, if_pos rfl]
  show (if (ofL [1, 1, 1, 97, 1, 98]).toList = _ then some ((ofL [2, 1, 1, 97, 5]).toList == _) else some false) = some true
  rw [ofL_toList, ofL_toList, if_pos rfl]
  rfl
end Go.Proofs.Ytdkbikaheagbfaa.NodeP
