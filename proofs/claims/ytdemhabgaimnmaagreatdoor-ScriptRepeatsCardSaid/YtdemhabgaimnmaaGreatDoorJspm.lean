/- A script's bytes, cut off anywhere behind its configuration. -/
import Derived.Test.YtdemhabgaimnmaaGreatDoorJspl
namespace Go.Proofs.YtdemhabgaimnmaaGreatDoor
open Go.RowKit
set_option maxRecDepth 100000
set_option linter.unusedVariables false

/-- A slice's first elements. -/
theorem KRows.take {K : Nat → Prop} {w : World} {k n c m : Nat} {p : Option Addr} {rows : List (List Value)} (h : KRows K w k (.slice p n c) rows) (hm : m ≤ rows.length) : KRows K w k (.slice p m c) (rows.take m) := by
  obtain ⟨p', c', e, h1⟩ := id h.at'
  injection e with e1 e2 e3
  subst e1 e3
  refine ⟨⟨p, c, by rw [List.length_take, Nat.min_eq_left hm], fun i r hi => ?_⟩, fun a n' c'' e hn => ?_, fun n' c'' e => ?_, fun p' n' c'' e => ?_⟩
  · rw [List.getElem?_take] at hi
    split at hi
    · exact h1 i r hi
    · cases hi
  · cases e
    exact h.kind _ _ _ rfl (by intro q; rw [q] at hn; exact hn (List.take_nil))
  · cases e
    exact h.nil _ _ rfl
  · cases e
    have := h.cap _ _ _ rfl
    omega
theorem KB.take {K : Nat → Prop} {w : World} {n c m : Nat} {p : Option Addr} {l : List Nat} (h : KB K w (.slice p n c) l) (hm : m ≤ l.length) : KB K w (.slice p m c) (l.take m) := by
  have := KRows.take h (m := m) (by rwa [List.length_map])
  rw [← List.map_take] at this
  exact this
theorem KE.take {K : Nat → Prop} {w : World} {n c m : Nat} {p : Option Addr} {l : List Ent} (h : KE K w (.slice p n c) l) (hm : m ≤ l.length) : KE K w (.slice p m c) (l.take m) := by
  have := KRows.take h (m := m) (by rwa [List.length_map])
  rw [← List.map_take] at this
  exact this
theorem drop_head (x : Nat → Int) (r : List Nat) : (headJ x 13 ++ r).drop 52 = r := by
  rw [show (52 : Nat) = (headJ x 13).length from (headJ_len x 13).symm, List.drop_left]
theorem dec_head {x : Nat → Int} (hok : okI x) (r : List Nat) : (decP r [] = none ∧ decK (headJ x 13 ++ r) = 3) ∨ ∃ es, decP r [] = some es ∧ decK (headJ x 13 ++ r) = 0 ∧ decL (headJ x 13 ++ r) = es ∧ ∀ i, i < 13 → decX (headJ x 13 ++ r) i = x i := by
  have hl : ¬ (headJ x 13 ++ r).length < 52 := by rw [List.length_append, headJ_len]; omega
  cases hp : decP r [] with
  | none => exact .inl ⟨rfl, dec_full hl (okI_head hok r) (by rw [drop_head]; exact hp)⟩
  | some es =>
    have h0 := dec_ok hl (okI_head hok r) (es := es) (by rw [drop_head]; exact hp)
    exact .inr ⟨es, rfl, h0, decL_ok h0 (by rw [drop_head]; exact hp), fun i hi => by rw [decX_ok h0]; exact cfg_head hok r i hi⟩
theorem DecGot.cfg {T : TypeId} {Y x : Nat → Int} {k : Int} {es : List Ent} {w w' : World} {e : Ending} (h : DecGot T Y k es w e w') (hx : ∀ i, i < 13 → Y i = x i) : DecGot T x k es w e w' := by
  unfold DecGot at h ⊢
  rw [hx 0 (by decide), hx 1 (by decide), hx 2 (by decide), hx 3 (by decide), hx 4 (by decide), hx 5 (by decide), hx 6 (by decide), hx 7 (by decide), hx 8 (by decide), hx 9 (by decide), hx 10 (by decide), hx 11 (by decide), hx 12 (by decide)] at h
  exact h

theorem right_yes {x : Nat → Int} (h : okI x) (W : World) : Calls Tryz.prog 16 #[.agg #[.int .i64 (x 0), .int .i64 (x 1), .int .i64 (x 2), .int .i64 (x 3), .int .i64 (x 4), .int .i64 (x 5), .int .i64 (x 6), .int .i64 (x 7), .int .i64 (x 8), .int .i64 (x 9), .int .i64 (x 10), .int .i64 (x 11), .int .i64 (x 12)]] W fun e w' => e = .returned (.bool true) ∧ Below W.heap.size W w' := by
  have := ref_Right x W
  rwa [decide_eq_true h] at this
theorem right_no {x : Nat → Int} (h : ¬ okI x) (W : World) : Calls Tryz.prog 16 #[.agg #[.int .i64 (x 0), .int .i64 (x 1), .int .i64 (x 2), .int .i64 (x 3), .int .i64 (x 4), .int .i64 (x 5), .int .i64 (x 6), .int .i64 (x 7), .int .i64 (x 8), .int .i64 (x 9), .int .i64 (x 10), .int .i64 (x 11), .int .i64 (x 12)]] W fun e w' => e = .returned (.bool false) ∧ Below W.heap.size W w' := by
  have := ref_Right x W
  rwa [decide_eq_false h] at this
end Go.Proofs.YtdemhabgaimnmaaGreatDoor
