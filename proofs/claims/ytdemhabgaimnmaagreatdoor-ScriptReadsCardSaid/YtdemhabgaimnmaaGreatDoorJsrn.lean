/- Bytes that are no script; what any bytes say. -/
import Derived.Test.YtdemhabgaimnmaaGreatDoorJsrm
import Derived.Deep.RegionHeld3
namespace Go.Proofs.YtdemhabgaimnmaaGreatDoor
open Go.RowKit
set_option maxRecDepth 100000
set_option linter.unusedVariables false

theorem decL_le (l : List Nat) : (decL l).length ≤ 20000 := by
  unfold decL
  by_cases h : decK l = 0
  · rw [if_pos h]
    cases hp : decP (l.drop 52) [] with
    | none => exact Nat.zero_le _
    | some es => exact decP_le (Nat.zero_le _) hp
  · rw [if_neg h]; exact Nat.zero_le _
/-- What a Decode answers, by letters. -/
def DecGot (T : TypeId) (Y : Nat → Int) (k : Int) (es : List Ent) (w : World) (e : Ending) (w' : World) : Prop :=
  ∃ v, e = .returned (.tuple #[.agg #[.int .i64 (Y 0), .int .i64 (Y 1), .int .i64 (Y 2), .int .i64 (Y 3), .int .i64 (Y 4), .int .i64 (Y 5), .int .i64 (Y 6), .int .i64 (Y 7), .int .i64 (Y 8), .int .i64 (Y 9), .int .i64 (Y 10), .int .i64 (Y 11), .int .i64 (Y 12)], v, .int .i64 k]) ∧ KE (fun b => w.heap.size ≤ b ∧ b < w'.heap.size) w' v es ∧ Below w.heap.size w w'
theorem DecPost.got {T : TypeId} {w w' : World} {l : List Nat} {e : Ending} (h : DecPost T w l e w') : DecGot T (decX l) (decK l) (decL l) w e w' := by
  obtain ⟨v, he, ho, hb⟩ := h
  exact ⟨v, he, KE.own ho, hb⟩
end Go.Proofs.YtdemhabgaimnmaaGreatDoor
