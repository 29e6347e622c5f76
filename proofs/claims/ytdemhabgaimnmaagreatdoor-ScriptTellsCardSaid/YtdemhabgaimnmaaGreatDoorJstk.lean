/- What the bytes of a script say as a whole; script.Decode. -/
import Derived.Test.YtdemhabgaimnmaaGreatDoorJstj
import Derived.Great.BuildSlice
namespace Go.Proofs.YtdemhabgaimnmaaGreatDoor
open Go.RowKit
set_option maxRecDepth 100000
set_option linter.unusedVariables false

/-- The configuration of bytes. -/
def cfgL (l : List Nat) (i : Nat) : Int := ((numL ((l.drop (4 * i)).take 4) : Nat) : Int)
def decK (l : List Nat) : Int := if l.length < 52 then 9 else if okI (cfgL l) then (if decP (l.drop 52) [] = none then 3 else 0) else 7
def decL (l : List Nat) : List Ent := if decK l = 0 then (decP (l.drop 52) []).getD [] else []
def decX (l : List Nat) (i : Nat) : Int := if decK l = 0 then cfgL l i else 0
theorem dec_short {l : List Nat} (h : l.length < 52) : decK l = 9 := by unfold decK; rw [if_pos h]
theorem dec_bad {l : List Nat} (h : ¬ l.length < 52) (h2 : ¬ okI (cfgL l)) : decK l = 7 := by unfold decK; rw [if_neg h, if_neg h2]
theorem dec_full {l : List Nat} (h : ¬ l.length < 52) (h2 : okI (cfgL l)) (h3 : decP (l.drop 52) [] = none) : decK l = 3 := by unfold decK; rw [if_neg h, if_pos h2, if_pos h3]
theorem dec_ok {l : List Nat} (h : ¬ l.length < 52) (h2 : okI (cfgL l)) {es : List Ent} (h3 : decP (l.drop 52) [] = some es) : decK l = 0 := by unfold decK; rw [if_neg h, if_pos h2, if_neg (by rw [h3]; simp)]
theorem decX_no {l : List Nat} (h : decK l ≠ 0) : decX l = fun _ => 0 := by funext i; unfold decX; rw [if_neg h]
theorem decX_ok {l : List Nat} (h : decK l = 0) : decX l = cfgL l := by funext i; unfold decX; rw [if_pos h]
theorem decL_no {l : List Nat} (h : decK l ≠ 0) : decL l = [] := by unfold decL; rw [if_neg h]
theorem decL_ok {l : List Nat} (h : decK l = 0) {es : List Ent} (h3 : decP (l.drop 52) [] = some es) : decL l = es := by unfold decL; rw [if_pos h, h3]; rfl
/-- Bytes are decoded. -/
def DecPost (T : TypeId) (w : World) (l : List Nat) (e : Ending) (w' : World) : Prop :=
  ∃ v, e = .returned (.tuple #[.agg #[.int .i64 (decX l 0), .int .i64 (decX l 1), .int .i64 (decX l 2), .int .i64 (decX l 3), .int .i64 (decX l 4), .int .i64 (decX l 5), .int .i64 (decX l 6), .int .i64 (decX l 7), .int .i64 (decX l 8), .int .i64 (decX l 9), .int .i64 (decX l 10), .int .i64 (decX l 11), .int .i64 (decX l 12)], v, .int .i64 (decK l)]) ∧ w'.ownsRow w.heap.size T 8 v (decL l).length ((decL l).map Ent.cells).flatten ∧ Below w.heap.size w w'
theorem DecPost.no {T : TypeId} {w w' : World} {l : List Nat} {k : Int} (hk : decK l = k) (h0 : k ≠ 0) (hb : Below w.heap.size w w') : DecPost T w l (.returned (.tuple #[.agg #[.int .i64 0, .int .i64 0, .int .i64 0, .int .i64 0, .int .i64 0, .int .i64 0, .int .i64 0, .int .i64 0, .int .i64 0, .int .i64 0, .int .i64 0, .int .i64 0, .int .i64 0], .slice none 0 0, .int .i64 k])) w' := by
  refine ⟨.slice none 0 0, ?_, ?_, hb⟩
  · rw [decX_no (by rw [hk]; exact h0), hk]
  · rw [decL_no (by rw [hk]; exact h0)]
    exact World.ownsRow_nil _ _ _ _
/-- Rows of numbers while they are filled. -/
def rowC (x : Nat → Int) (j : Nat) : Array Value := ((List.range 13).map fun i => Value.int .i64 (if i < j then x i else 0)).toArray
theorem rowC_zero (x : Nat → Int) : rowC x 0 = #[.int .i64 0, .int .i64 0, .int .i64 0, .int .i64 0, .int .i64 0, .int .i64 0, .int .i64 0, .int .i64 0, .int .i64 0, .int .i64 0, .int .i64 0, .int .i64 0, .int .i64 0] := rfl
theorem rowC_all (x : Nat → Int) : rowC x 13 = #[.int .i64 (x 0), .int .i64 (x 1), .int .i64 (x 2), .int .i64 (x 3), .int .i64 (x 4), .int .i64 (x 5), .int .i64 (x 6), .int .i64 (x 7), .int .i64 (x 8), .int .i64 (x 9), .int .i64 (x 10), .int .i64 (x 11), .int .i64 (x 12)] := rfl
theorem rowC_at (x : Nat → Int) {j : Nat} (h : j < 13) : (rowC x j)[j]? = some (.int .i64 0) := by
  unfold rowC
  simp [h]
theorem rowC_set (x : Nat → Int) {j : Nat} (h : j < 13) : (rowC x j).setIfInBounds j (.int .i64 (x j)) = rowC x (j + 1) := by
  apply Array.ext'
  apply List.ext_getElem?
  intro i
  unfold rowC
  simp only [Array.toList_setIfInBounds, List.getElem?_set, List.getElem?_map, List.length_map, List.length_range]
  by_cases hi : i < 13
  · rw [List.getElem?_range hi]
    by_cases e : j = i
    · subst e
      rw [if_pos rfl, if_pos h]
      show _ = some (Value.int .i64 (if j < j + 1 then x j else 0))
      rw [if_pos (Nat.lt_succ_self j)]
    · rw [if_neg e]
      have : (i < j + 1) = (i < j) := by apply propext; omega
      show some (Value.int .i64 (if i < j then x i else 0)) = some (Value.int .i64 (if i < j + 1 then x i else 0))
      simp only [this]
  · rw [List.getElem?_eq_none (by simpa using hi), if_neg (by omega)]
    rfl
theorem takeP_bytes {b r : List Nat} {k n : Nat} (h : takeP b k = some (n, r)) (hb : ∀ z ∈ b, z < 256) : ∀ z ∈ r, z < 256 := by
  unfold takeP at h
  split at h
  · cases h
  · cases h
    exact fun z hz => hb z (List.mem_of_mem_drop hz)
theorem parts_bytes : ∀ (ps : List (Nat × Nat)) (e : Ent) (b : List Nat) (e' : Ent) (r : List Nat), partsP ps e b = some (e', r) → (∀ z ∈ b, z < 256) → ∀ z ∈ r, z < 256
  | [], e, b, e', r, h, hb => by cases h; exact hb
  | (i, k) :: ps, e, b, e', r, h, hb => by
    rw [partsP] at h
    cases ht : takeP b k with
    | none => rw [ht] at h; cases h
    | some q =>
      obtain ⟨n, b'⟩ := q
      rw [ht] at h
      exact parts_bytes ps _ b' e' r h (takeP_bytes ht hb)
theorem entry_bytes {b r : List Nat} {e : Ent} {t : Nat} (h : entryP b = some (e, t, r)) (hb : ∀ z ∈ b, z < 256) : ∀ z ∈ r, z < 256 := by
  cases b with
  | nil => cases h
  | cons x b =>
    have hb1 : ∀ z ∈ b, z < 256 := fun z hz => hb z (List.mem_cons_of_mem _ hz)
    simp only [entryP] at h
    split at h
    · cases h; exact hb1
    · split at h
      · cases h; exact hb1
      · cases b with
        | nil => cases h
        | cons y b =>
          have hb2 : ∀ z ∈ b, z < 256 := fun z hz => hb1 z (List.mem_cons_of_mem _ hz)
          simp only at h
          split at h
          · cases h; exact hb2
          · cases hp : partsP (shapeP (x / 4)) (invE y (x / 4 : Nat)) b with
            | none => rw [hp] at h; cases h
            | some q =>
              obtain ⟨e1, b1⟩ := q
              rw [hp] at h
              cases h
              exact parts_bytes _ _ _ _ _ hp hb2
theorem entry_times {b r : List Nat} {e : Ent} {t : Nat} (h : entryP b = some (e, t, r)) (hb : ∀ z ∈ b, z < 256) : t ≤ 64 := by
  cases b with
  | nil => cases h
  | cons x b =>
    have hx := hb x (List.mem_cons_self ..)
    simp only [entryP] at h
    split at h
    · cases h; omega
    · split at h
      · cases h; omega
      · cases b with
        | nil => cases h
        | cons y b =>
          simp only at h
          split at h
          · cases h; omega
          · cases hp : partsP (shapeP (x / 4)) (invE y (x / 4 : Nat)) b with
            | none => rw [hp] at h; cases h
            | some q =>
              obtain ⟨e1, b1⟩ := q
              rw [hp] at h
              cases h
              omega
def sliceLen : Value → Nat
  | .slice _ n _ => n
  | _ => 0
theorem own_setRow {w : World} {base k n b : Nat} {e t : TypeId} {v : Value} {xs : List Value} {cs : Array Value} {fr : Nat × Nat} (h : w.ownsRow base e k v n xs) (hb : w.heap[b]? = some (.cells cs t fr)) (hne : t ≠ e) (new : Array Value) : (w.setRow b new).ownsRow base e k v n xs := by
  have hn := own_type0 h hb hne
  refine ⟨h.1, ?_⟩
  rcases h.2 with h | ⟨g, c, cur, e0, hg, h2, h3⟩
  · exact .inl h
  · refine .inr ⟨g, c, cur, e0, hg, ?_, h3⟩
    have hgb : g ≠ b := by intro q; rw [e0] at hn; exact hn (by rw [q]; rfl)
    have : (w.setRow b new).heap[g]? = w.heap[g]? := by simp [World.setRow, Array.getElem?_modify, Ne.symm hgb]
    rw [this]
    exact h2
theorem results_ctt {fn : Func} {p q u : Tmp} {T1 : TypeId} (h : fn.results = #[.cell p T1, .tmp q, .tmp u]) (tmps : Array Value) (P : Program) (w : World) {b1 : Nat} {r1 : Array Value} {q1 : TypeId} {v1 v2 : Value} {d1 : TypeDesc}
    (hp : tmps.getD p undef = .pointer (some ⟨b1, 0, none⟩)) (hq : tmps.getD q undef = v1) (hv : tmps.getD u undef = v2) (B1 : w.heap[b1]? = some (.cells r1 q1))
    (hk1 : (match d1 with | .struct _ | .array _ _ => true | _ => false) = true) (hu1 : P.underlying T1 = some d1) (hi1 : (P.info? T1).map (·.size) = some r1.size) :
    (results fn tmps).run P w = .ok (.tuple #[.agg r1, v1, v2]) w := by
  have hp' : tmps[p]?.getD undef = .pointer (some ⟨b1, 0, none⟩) := by simpa using hp
  have hq' : tmps[q]?.getD undef = v1 := by simpa using hq
  have hv' : tmps[u]?.getD undef = v2 := by simpa using hv
  simp [results, h, hp', hq', hv', asAddr, run_loadVar_row w b1 q1 T1 r1 (0, 0) d1 B1 hu1 (by cases d1 <;> first | rfl | cases hk1) hi1]

set_option maxHeartbeats 2000000 in
theorem plan_Of (x : Nat → Int) (w : World) : Calls Tryz.prog 23 #[.agg #[.int .i64 (x 0), .int .i64 (x 1), .int .i64 (x 2), .int .i64 (x 3), .int .i64 (x 4), .int .i64 (x 5), .int .i64 (x 6), .int .i64 (x 7), .int .i64 (x 8), .int .i64 (x 9), .int .i64 (x 10), .int .i64 (x 11), .int .i64 (x 12)]] w fun e w' => e = .returned (.agg #[.int .i64 (x 0), .int .i64 (x 1), .int .i64 (x 2), .int .i64 (x 3), .int .i64 (x 4), .int .i64 (x 5), .int .i64 (x 6), .int .i64 (x 7), .int .i64 (x 8), .int .i64 (x 9), .int .i64 (x 10), .int .i64 (x 11), .int .i64 (x 12)]) ∧ Below w.heap.size w w' := by
  have hb : Below w.heap.size w ((w.alloc (.cells #[.int .i64 (x 0), .int .i64 (x 1), .int .i64 (x 2), .int .i64 (x 3), .int .i64 (x 4), .int .i64 (x 5), .int .i64 (x 6), .int .i64 (x 7), .int .i64 (x 8), .int .i64 (x 9), .int .i64 (x 10), .int .i64 (x 11), .int .i64 (x 12)] 22)).alloc (.cells #[.int .i64 0, .int .i64 0, .int .i64 0, .int .i64 0, .int .i64 0, .int .i64 0, .int .i64 0, .int .i64 0, .int .i64 0, .int .i64 0, .int .i64 0, .int .i64 0, .int .i64 0] 29)) := ((Below.refl _ _).alloc (Nat.le_refl _) _).alloc (by simp) _
  have e0 : ((w.alloc (.cells #[.int .i64 (x 0), .int .i64 (x 1), .int .i64 (x 2), .int .i64 (x 3), .int .i64 (x 4), .int .i64 (x 5), .int .i64 (x 6), .int .i64 (x 7), .int .i64 (x 8), .int .i64 (x 9), .int .i64 (x 10), .int .i64 (x 11), .int .i64 (x 12)] 22)).alloc (.cells #[.int .i64 0, .int .i64 0, .int .i64 0, .int .i64 0, .int .i64 0, .int .i64 0, .int .i64 0, .int .i64 0, .int .i64 0, .int .i64 0, .int .i64 0, .int .i64 0, .int .i64 0] 29)).cell? ⟨w.heap.size, 0, none⟩ = some (.int .i64 (x 0)) := by go_simp
  have e1 : ((w.alloc (.cells #[.int .i64 (x 0), .int .i64 (x 1), .int .i64 (x 2), .int .i64 (x 3), .int .i64 (x 4), .int .i64 (x 5), .int .i64 (x 6), .int .i64 (x 7), .int .i64 (x 8), .int .i64 (x 9), .int .i64 (x 10), .int .i64 (x 11), .int .i64 (x 12)] 22)).alloc (.cells #[.int .i64 0, .int .i64 0, .int .i64 0, .int .i64 0, .int .i64 0, .int .i64 0, .int .i64 0, .int .i64 0, .int .i64 0, .int .i64 0, .int .i64 0, .int .i64 0, .int .i64 0] 29)).cell? ⟨w.heap.size, 1, none⟩ = some (.int .i64 (x 1)) := by go_simp
  have e2 : ((w.alloc (.cells #[.int .i64 (x 0), .int .i64 (x 1), .int .i64 (x 2), .int .i64 (x 3), .int .i64 (x 4), .int .i64 (x 5), .int .i64 (x 6), .int .i64 (x 7), .int .i64 (x 8), .int .i64 (x 9), .int .i64 (x 10), .int .i64 (x 11), .int .i64 (x 12)] 22)).alloc (.cells #[.int .i64 0, .int .i64 0, .int .i64 0, .int .i64 0, .int .i64 0, .int .i64 0, .int .i64 0, .int .i64 0, .int .i64 0, .int .i64 0, .int .i64 0, .int .i64 0, .int .i64 0] 29)).cell? ⟨w.heap.size, 2, none⟩ = some (.int .i64 (x 2)) := by go_simp
  have e3 : ((w.alloc (.cells #[.int .i64 (x 0), .int .i64 (x 1), .int .i64 (x 2), .int .i64 (x 3), .int .i64 (x 4), .int .i64 (x 5), .int .i64 (x 6), .int .i64 (x 7), .int .i64 (x 8), .int .i64 (x 9), .int .i64 (x 10), .int .i64 (x 11), .int .i64 (x 12)] 22)).alloc (.cells #[.int .i64 0, .int .i64 0, .int .i64 0, .int .i64 0, .int .i64 0, .int .i64 0, .int .i64 0, .int .i64 0, .int .i64 0, .int .i64 0, .int .i64 0, .int .i64 0, .int .i64 0] 29)).cell? ⟨w.heap.size, 3, none⟩ = some (.int .i64 (x 3)) := by go_simp
  have e4 : ((w.alloc (.cells #[.int .i64 (x 0), .int .i64 (x 1), .int .i64 (x 2), .int .i64 (x 3), .int .i64 (x 4), .int .i64 (x 5), .int .i64 (x 6), .int .i64 (x 7), .int .i64 (x 8), .int .i64 (x 9), .int .i64 (x 10), .int .i64 (x 11), .int .i64 (x 12)] 22)).alloc (.cells #[.int .i64 0, .int .i64 0, .int .i64 0, .int .i64 0, .int .i64 0, .int .i64 0, .int .i64 0, .int .i64 0, .int .i64 0, .int .i64 0, .int .i64 0, .int .i64 0, .int .i64 0] 29)).cell? ⟨w.heap.size, 4, none⟩ = some (.int .i64 (x 4)) := by go_simp
  have e5 : ((w.alloc (.cells #[.int .i64 (x 0), .int .i64 (x 1), .int .i64 (x 2), .int .i64 (x 3), .int .i64 (x 4), .int .i64 (x 5), .int .i64 (x 6), .int .i64 (x 7), .int .i64 (x 8), .int .i64 (x 9), .int .i64 (x 10), .int .i64 (x 11), .int .i64 (x 12)] 22)).alloc (.cells #[.int .i64 0, .int .i64 0, .int .i64 0, .int .i64 0, .int .i64 0, .int .i64 0, .int .i64 0, .int .i64 0, .int .i64 0, .int .i64 0, .int .i64 0, .int .i64 0, .int .i64 0] 29)).cell? ⟨w.heap.size, 5, none⟩ = some (.int .i64 (x 5)) := by go_simp
  have e6 : ((w.alloc (.cells #[.int .i64 (x 0), .int .i64 (x 1), .int .i64 (x 2), .int .i64 (x 3), .int .i64 (x 4), .int .i64 (x 5), .int .i64 (x 6), .int .i64 (x 7), .int .i64 (x 8), .int .i64 (x 9), .int .i64 (x 10), .int .i64 (x 11), .int .i64 (x 12)] 22)).alloc (.cells #[.int .i64 0, .int .i64 0, .int .i64 0, .int .i64 0, .int .i64 0, .int .i64 0, .int .i64 0, .int .i64 0, .int .i64 0, .int .i64 0, .int .i64 0, .int .i64 0, .int .i64 0] 29)).cell? ⟨w.heap.size, 6, none⟩ = some (.int .i64 (x 6)) := by go_simp
  have e7 : ((w.alloc (.cells #[.int .i64 (x 0), .int .i64 (x 1), .int .i64 (x 2), .int .i64 (x 3), .int .i64 (x 4), .int .i64 (x 5), .int .i64 (x 6), .int .i64 (x 7), .int .i64 (x 8), .int .i64 (x 9), .int .i64 (x 10), .int .i64 (x 11), .int .i64 (x 12)] 22)).alloc (.cells #[.int .i64 0, .int .i64 0, .int .i64 0, .int .i64 0, .int .i64 0, .int .i64 0, .int .i64 0, .int .i64 0, .int .i64 0, .int .i64 0, .int .i64 0, .int .i64 0, .int .i64 0] 29)).cell? ⟨w.heap.size, 7, none⟩ = some (.int .i64 (x 7)) := by go_simp
  have e8 : ((w.alloc (.cells #[.int .i64 (x 0), .int .i64 (x 1), .int .i64 (x 2), .int .i64 (x 3), .int .i64 (x 4), .int .i64 (x 5), .int .i64 (x 6), .int .i64 (x 7), .int .i64 (x 8), .int .i64 (x 9), .int .i64 (x 10), .int .i64 (x 11), .int .i64 (x 12)] 22)).alloc (.cells #[.int .i64 0, .int .i64 0, .int .i64 0, .int .i64 0, .int .i64 0, .int .i64 0, .int .i64 0, .int .i64 0, .int .i64 0, .int .i64 0, .int .i64 0, .int .i64 0, .int .i64 0] 29)).cell? ⟨w.heap.size, 8, none⟩ = some (.int .i64 (x 8)) := by go_simp
  have e9 : ((w.alloc (.cells #[.int .i64 (x 0), .int .i64 (x 1), .int .i64 (x 2), .int .i64 (x 3), .int .i64 (x 4), .int .i64 (x 5), .int .i64 (x 6), .int .i64 (x 7), .int .i64 (x 8), .int .i64 (x 9), .int .i64 (x 10), .int .i64 (x 11), .int .i64 (x 12)] 22)).alloc (.cells #[.int .i64 0, .int .i64 0, .int .i64 0, .int .i64 0, .int .i64 0, .int .i64 0, .int .i64 0, .int .i64 0, .int .i64 0, .int .i64 0, .int .i64 0, .int .i64 0, .int .i64 0] 29)).cell? ⟨w.heap.size, 9, none⟩ = some (.int .i64 (x 9)) := by go_simp
  have e10 : ((w.alloc (.cells #[.int .i64 (x 0), .int .i64 (x 1), .int .i64 (x 2), .int .i64 (x 3), .int .i64 (x 4), .int .i64 (x 5), .int .i64 (x 6), .int .i64 (x 7), .int .i64 (x 8), .int .i64 (x 9), .int .i64 (x 10), .int .i64 (x 11), .int .i64 (x 12)] 22)).alloc (.cells #[.int .i64 0, .int .i64 0, .int .i64 0, .int .i64 0, .int .i64 0, .int .i64 0, .int .i64 0, .int .i64 0, .int .i64 0, .int .i64 0, .int .i64 0, .int .i64 0, .int .i64 0] 29)).cell? ⟨w.heap.size, 10, none⟩ = some (.int .i64 (x 10)) := by go_simp
  have e11 : ((w.alloc (.cells #[.int .i64 (x 0), .int .i64 (x 1), .int .i64 (x 2), .int .i64 (x 3), .int .i64 (x 4), .int .i64 (x 5), .int .i64 (x 6), .int .i64 (x 7), .int .i64 (x 8), .int .i64 (x 9), .int .i64 (x 10), .int .i64 (x 11), .int .i64 (x 12)] 22)).alloc (.cells #[.int .i64 0, .int .i64 0, .int .i64 0, .int .i64 0, .int .i64 0, .int .i64 0, .int .i64 0, .int .i64 0, .int .i64 0, .int .i64 0, .int .i64 0, .int .i64 0, .int .i64 0] 29)).cell? ⟨w.heap.size, 11, none⟩ = some (.int .i64 (x 11)) := by go_simp
  have e12 : ((w.alloc (.cells #[.int .i64 (x 0), .int .i64 (x 1), .int .i64 (x 2), .int .i64 (x 3), .int .i64 (x 4), .int .i64 (x 5), .int .i64 (x 6), .int .i64 (x 7), .int .i64 (x 8), .int .i64 (x 9), .int .i64 (x 10), .int .i64 (x 11), .int .i64 (x 12)] 22)).alloc (.cells #[.int .i64 0, .int .i64 0, .int .i64 0, .int .i64 0, .int .i64 0, .int .i64 0, .int .i64 0, .int .i64 0, .int .i64 0, .int .i64 0, .int .i64 0, .int .i64 0, .int .i64 0] 29)).cell? ⟨w.heap.size, 12, none⟩ = some (.int .i64 (x 12)) := by go_simp
  go_enter Tryz.func23, Tryz.ntmps23
  go_wp2_with fail
  exact bodyPost_ret (v := .agg #[.int .i64 (x 0), .int .i64 (x 1), .int .i64 (x 2), .int .i64 (x 3), .int .i64 (x 4), .int .i64 (x 5), .int .i64 (x 6), .int .i64 (x 7), .int .i64 (x 8), .int .i64 (x 9), .int .i64 (x 10), .int .i64 (x 11), .int .i64 (x 12)]) (by simp [results, Tryz.results23, go_sem]) rfl ⟨rfl, ((Below.refl _ _).alloc (Nat.le_refl _) _).alloc (by simp) _⟩
theorem plan_checkX (x : Nat → Int) (w : World) : Calls Tryz.prog 24 #[.agg #[.int .i64 (x 0), .int .i64 (x 1), .int .i64 (x 2), .int .i64 (x 3), .int .i64 (x 4), .int .i64 (x 5), .int .i64 (x 6), .int .i64 (x 7), .int .i64 (x 8), .int .i64 (x 9), .int .i64 (x 10), .int .i64 (x 11), .int .i64 (x 12)]] w fun e w' => ∃ a : Int, e = .returned (.tuple #[.int .i64 a, .int .i64 (if okI x then 0 else 7)]) ∧ Below w.heap.size w w' := by
  by_cases h : okI x
  · have := plan_check (cfOf x) (cfOf_ok h) w
    rw [cfOf_vals h] at this
    refine this.mono ?_
    rintro e w' ⟨rfl, hb⟩
    exact ⟨0, by rw [if_pos h], hb⟩
  · refine (plan_check_no x h w).mono ?_
    rintro e w' ⟨k, rfl, hb⟩
    exact ⟨k, by rw [if_neg h], hb⟩
set_option maxHeartbeats 4000000 in
theorem script_Decode {B : Nat} {v : Value} {l : List Nat} {w : World} (h : KBb B w v l) (hB : B ≤ w.heap.size) (hb : ∀ z ∈ l, z < 256) (hm : l.length ≤ 9000000000000000000) :
    Calls Tryz.prog 10 #[v] w (DecPost 56 w l) := by
  by_cases hs : l.length < 52
  · obtain ⟨p, c, rfl, _⟩ := KB.form h
    have hk := Go.Lib.hid (dec_short hs)
    clear h
    generalize hn : l.length = n at *
    have hn' := Go.Lib.hid hn
    clear hn
    have hs' : (n : Int) < 52 := by omega
    go_enter Tryz.func10, Tryz.ntmps10
    go_wp2
    go_step3
    go_wp2
    exact bodyPost_ret (v := .tuple #[.agg #[.int .i64 0, .int .i64 0, .int .i64 0, .int .i64 0, .int .i64 0, .int .i64 0, .int .i64 0, .int .i64 0, .int .i64 0, .int .i64 0, .int .i64 0, .int .i64 0, .int .i64 0], .slice none 0 0, .int .i64 9]) (by simp [results, Tryz.results10, go_sem]) rfl (DecPost.no hk.out (by decide) ((Below.refl _ _).alloc (Nat.le_refl _) _))
  · obtain ⟨p, c, rfl, _⟩ := id (KB.form h)
    have HK0 := Go.Lib.hid h
    have hs' : ((l.length : Int) < 52) = False := by simp; omega
    have HBB := Go.Lib.hid hb
    have hlen : Hid (l.length = l.length) := Go.Lib.hid rfl
    clear h hb
    go_enter Tryz.func10, Tryz.ntmps10
    go_wp2
    go_step3
    go_wp2
    have HLT : Hid (52 ≤ l.length) := Go.Lib.hid (by omega)
    obtain ⟨x, hxe⟩ : ∃ x : Nat → Int, x = cfgL l := ⟨_, rfl⟩
    have HX : Hid (∀ j, j < 13 → ((numL ((l.drop (4 * j)).take 4) : Nat) : Int) = x j) := Go.Lib.hid (fun j _ => by rw [hxe]; rfl)
    have HXE := Go.Lib.hid hxe
    have B0 := Go.Lib.hid (((Below.refl _ w).alloc (Nat.le_refl _) (.cells #[.int .i64 0, .int .i64 0, .int .i64 0, .int .i64 0, .int .i64 0, .int .i64 0, .int .i64 0, .int .i64 0, .int .i64 0, .int .i64 0, .int .i64 0, .int .i64 0, .int .i64 0] 29)).alloc (by simp) (.cells #[.int .i64 0, .int .i64 0, .int .i64 0, .int .i64 0, .int .i64 0, .int .i64 0, .int .i64 0, .int .i64 0, .int .i64 0, .int .i64 0, .int .i64 0, .int .i64 0, .int .i64 0] 22))
    have hz0 := row_below ((Below.refl _ (w.alloc (.cells #[.int .i64 0, .int .i64 0, .int .i64 0, .int .i64 0, .int .i64 0, .int .i64 0, .int .i64 0, .int .i64 0, .int .i64 0, .int .i64 0, .int .i64 0, .int .i64 0, .int .i64 0] 29))).alloc (Nat.le_refl _) (.cells #[.int .i64 0, .int .i64 0, .int .i64 0, .int .i64 0, .int .i64 0, .int .i64 0, .int .i64 0, .int .i64 0, .int .i64 0, .int .i64 0, .int .i64 0, .int .i64 0, .int .i64 0] 22)) (heap_alloc_new w (.cells #[.int .i64 0, .int .i64 0, .int .i64 0, .int .i64 0, .int .i64 0, .int .i64 0, .int .i64 0, .int .i64 0, .int .i64 0, .int .i64 0, .int .i64 0, .int .i64 0, .int .i64 0] 29))
    have ha0 := heap_alloc_new (w.alloc (.cells #[.int .i64 0, .int .i64 0, .int .i64 0, .int .i64 0, .int .i64 0, .int .i64 0, .int .i64 0, .int .i64 0, .int .i64 0, .int .i64 0, .int .i64 0, .int .i64 0, .int .i64 0] 29)) (.cells #[.int .i64 0, .int .i64 0, .int .i64 0, .int .i64 0, .int .i64 0, .int .i64 0, .int .i64 0, .int .i64 0, .int .i64 0, .int .i64 0, .int .i64 0, .int .i64 0, .int .i64 0] 22)
    rw [World.size_alloc] at ha0
    have HZ0 := Go.Lib.hid hz0
    have HKB0 := Go.Lib.hid (HK0.out.below hB B0.out)
    clear hz0 hxe HK0
    generalize ((w.alloc (.cells #[.int .i64 0, .int .i64 0, .int .i64 0, .int .i64 0, .int .i64 0, .int .i64 0, .int .i64 0, .int .i64 0, .int .i64 0, .int .i64 0, .int .i64 0, .int .i64 0, .int .i64 0] 29)).alloc (.cells #[.int .i64 0, .int .i64 0, .int .i64 0, .int .i64 0, .int .i64 0, .int .i64 0, .int .i64 0, .int .i64 0, .int .i64 0, .int .i64 0, .int .i64 0, .int .i64 0, .int .i64 0] 22)) = W1 at *
    rw [← rowC_zero x] at ha0
    have HA0 := Go.Lib.hid ha0
    clear ha0
    generalize Value.slice p l.length c = v0 at *
    go_loopw [0, 6, 18] (fun u0 u6 u18 wr => ∃ j : Nat, u18 = .int .i64 j ∧ j ≤ 13 ∧ KBb B wr u0 (l.drop (4 * j)) ∧ wr.heap[w.heap.size + 1]? = some (.cells (rowC x j) 22) ∧ wr.heap[w.heap.size]? = some (.cells #[.int .i64 0, .int .i64 0, .int .i64 0, .int .i64 0, .int .i64 0, .int .i64 0, .int .i64 0, .int .i64 0, .int .i64 0, .int .i64 0, .int .i64 0, .int .i64 0, .int .i64 0] 29) ∧ Below w.heap.size w wr) (fun _ _ i _ => 13 - (intOf i).toNat)
    case atStart => exact ⟨0, rfl, by decide, HKB0.out, HA0.out, HZ0.out, B0.out⟩
    case round =>
      obtain ⟨j, rfl, hj, hkb, ha, hz, hbw⟩ := hrel
      have HKB := Go.Lib.hid hkb
      have HA := Go.Lib.hid ha
      have HZ := Go.Lib.hid hz
      have HBW := Go.Lib.hid hbw
      clear hkb ha hz hbw HKB0 HA0 HZ0 B0
      by_cases hlt : j < 13
      · have cj : wr.cell? ⟨w.heap.size + 1, j, none⟩ = some (.int .i64 0) := (cell_of_row _ _ _ _ _ _ HA.out).trans (rowC_at x hlt)
        have fj : wr.frozen? ⟨w.heap.size + 1, j, none⟩ = false := frozen_of_row _ _ _ _ _ HA.out
        have HTK : Hid (Calls Tryz.prog 22 #[u0, .int .i64 4] wr fun e w' => e = .returned (.tuple #[sliceFrom u0 4, .int .i64 (x j), .bool true]) ∧ w' = wr) := Go.Lib.hid (by
          have := script_take 4 (by decide) (by decide) HKB.out (fun z hz => HBB.out z (List.mem_of_mem_drop hz)) (by rw [List.length_drop]; have := HLT.out; omega) (by rw [List.length_drop]; omega)
          rwa [HX.out j hlt] at this)
        have HKB2 : Hid (KBb B (wr.setCell ⟨w.heap.size + 1, j, none⟩ (.int .i64 (x j))) (sliceFrom u0 4) (l.drop (4 * (j + 1)))) := Go.Lib.hid (by
          have h1 := KB.from (k := 4) HKB.out (by rw [List.length_drop]; have := HLT.out; omega) (by rw [List.length_drop]; have := HLT.out; omega)
          rw [List.drop_drop] at h1
          exact KB.keep h1 (fun q hq => Go.Deep.blk_setCell_other wr ⟨w.heap.size + 1, j, none⟩ _ q (by show q ≠ w.heap.size + 1; omega)))
        have HA2 : Hid ((wr.setCell ⟨w.heap.size + 1, j, none⟩ (.int .i64 (x j))).heap[w.heap.size + 1]? = some (.cells (rowC x (j + 1)) 22)) := Go.Lib.hid (by
          have := row_set0 (j := j) (v := .int .i64 (x j)) HA.out
          rwa [rowC_set x hlt] at this)
        have HZ2 : Hid ((wr.setCell ⟨w.heap.size + 1, j, none⟩ (.int .i64 (x j))).heap[w.heap.size]? = some (.cells #[.int .i64 0, .int .i64 0, .int .i64 0, .int .i64 0, .int .i64 0, .int .i64 0, .int .i64 0, .int .i64 0, .int .i64 0, .int .i64 0, .int .i64 0, .int .i64 0, .int .i64 0] 29)) := Go.Lib.hid ((Go.Deep.blk_setCell_other wr ⟨w.heap.size + 1, j, none⟩ _ w.heap.size (by show w.heap.size ≠ w.heap.size + 1; omega)).trans HZ.out)
        have HBW2 := Go.Lib.hid (HBW.out.setCell (p := ⟨w.heap.size + 1, j, none⟩) (by show w.heap.size ≤ w.heap.size + 1; omega) (.int .i64 (x j)))
        clear HKB HA HZ HBW
        have b1 : (0 : Int) ≤ (j : Int) := by omega
        have b2 : (j : Int) < 13 := by omega
        go_wp2_with fail
        refine HTK.out.mono ?_
        rintro e w' ⟨rfl, rfl⟩
        go_wp2
        go_roundw
        case rel => exact ⟨j + 1, by go_num, by omega, HKB2.out, HA2.out, HZ2.out, HBW2.out⟩
        case measure => simp [intOf]; omega
      · have hj13 : j = 13 := by omega
        subst hj13
        have ha13 := HA.out
        rw [rowC_all] at ha13
        have c0 : wr.cell? ⟨w.heap.size + 1, 0, none⟩ = some (.int .i64 (x 0)) := cell_of_row _ _ _ _ _ _ ha13
        have c1 : wr.cell? ⟨w.heap.size + 1, 1, none⟩ = some (.int .i64 (x 1)) := cell_of_row _ _ _ _ _ _ ha13
        have c2 : wr.cell? ⟨w.heap.size + 1, 2, none⟩ = some (.int .i64 (x 2)) := cell_of_row _ _ _ _ _ _ ha13
        have c3 : wr.cell? ⟨w.heap.size + 1, 3, none⟩ = some (.int .i64 (x 3)) := cell_of_row _ _ _ _ _ _ ha13
        have c4 : wr.cell? ⟨w.heap.size + 1, 4, none⟩ = some (.int .i64 (x 4)) := cell_of_row _ _ _ _ _ _ ha13
        have c5 : wr.cell? ⟨w.heap.size + 1, 5, none⟩ = some (.int .i64 (x 5)) := cell_of_row _ _ _ _ _ _ ha13
        have c6 : wr.cell? ⟨w.heap.size + 1, 6, none⟩ = some (.int .i64 (x 6)) := cell_of_row _ _ _ _ _ _ ha13
        have c7 : wr.cell? ⟨w.heap.size + 1, 7, none⟩ = some (.int .i64 (x 7)) := cell_of_row _ _ _ _ _ _ ha13
        have c8 : wr.cell? ⟨w.heap.size + 1, 8, none⟩ = some (.int .i64 (x 8)) := cell_of_row _ _ _ _ _ _ ha13
        have c9 : wr.cell? ⟨w.heap.size + 1, 9, none⟩ = some (.int .i64 (x 9)) := cell_of_row _ _ _ _ _ _ ha13
        have c10 : wr.cell? ⟨w.heap.size + 1, 10, none⟩ = some (.int .i64 (x 10)) := cell_of_row _ _ _ _ _ _ ha13
        have c11 : wr.cell? ⟨w.heap.size + 1, 11, none⟩ = some (.int .i64 (x 11)) := cell_of_row _ _ _ _ _ _ ha13
        have c12 : wr.cell? ⟨w.heap.size + 1, 12, none⟩ = some (.int .i64 (x 12)) := cell_of_row _ _ _ _ _ _ ha13
        have HOF := Go.Lib.hid (plan_Of x)
        have HU : Hid (∃ d, Tryz.prog.underlying 29 = some d ∧ (match d with | .struct _ | .array _ _ => true | _ => false) = true) := Go.Lib.hid ⟨_, Tryz.underlying29, rfl⟩
        have hi29 : (Tryz.prog.info? 29).map (·.size) = some 13 := by kernel_rfl
        have HI := Go.Lib.hid hi29
        clear hi29 ha13
        by_cases hok : okI x
        · have HCK : Hid (∀ W, Calls Tryz.prog 24 #[.agg #[.int .i64 (x 0), .int .i64 (x 1), .int .i64 (x 2), .int .i64 (x 3), .int .i64 (x 4), .int .i64 (x 5), .int .i64 (x 6), .int .i64 (x 7), .int .i64 (x 8), .int .i64 (x 9), .int .i64 (x 10), .int .i64 (x 11), .int .i64 (x 12)]] W fun e w' => ∃ a : Int, e = .returned (.tuple #[.int .i64 a, .int .i64 0]) ∧ Below W.heap.size W w') := Go.Lib.hid (fun W => by
            have := plan_checkX x W
            rwa [if_pos hok] at this)
          have hokL : okI (cfgL l) := by rw [← HXE.out]; exact hok
          clear hok
          go_wp2_with fail
          refine (HOF.out _).mono ?_
          rintro e w2 ⟨rfl, hb2⟩
          have HSZ2 : Hid (w.heap.size + 2 ≤ w2.heap.size) := Go.Lib.hid (by have := heap_lt0 HA.out; have := hb2.size; omega)
          have HB2 := Go.Lib.hid ((HBW.out.trans (hb2.mono HBW.out.size)).alloc (by have := HBW.out.size; have := hb2.size; omega) (.cells #[.int .i64 (x 0), .int .i64 (x 1), .int .i64 (x 2), .int .i64 (x 3), .int .i64 (x 4), .int .i64 (x 5), .int .i64 (x 6), .int .i64 (x 7), .int .i64 (x 8), .int .i64 (x 9), .int .i64 (x 10), .int .i64 (x 11), .int .i64 (x 12)] 29))
          have HZ2 := Go.Lib.hid (row_below (((Below.refl _ _).alloc (Nat.le_refl _) (.cells #[.int .i64 (x 0), .int .i64 (x 1), .int .i64 (x 2), .int .i64 (x 3), .int .i64 (x 4), .int .i64 (x 5), .int .i64 (x 6), .int .i64 (x 7), .int .i64 (x 8), .int .i64 (x 9), .int .i64 (x 10), .int .i64 (x 11), .int .i64 (x 12)] 29))) (row_below hb2 HZ.out))
          have HC2 := Go.Lib.hid (heap_alloc_new w2 (.cells #[.int .i64 (x 0), .int .i64 (x 1), .int .i64 (x 2), .int .i64 (x 3), .int .i64 (x 4), .int .i64 (x 5), .int .i64 (x 6), .int .i64 (x 7), .int .i64 (x 8), .int .i64 (x 9), .int .i64 (x 10), .int .i64 (x 11), .int .i64 (x 12)] 29))
          have HK2 := Go.Lib.hid ((HKB.out.below (Nat.le_trans hB HBW.out.size) hb2).below (by have := HBW.out.size; have := hb2.size; omega) ((Below.refl _ _).alloc (Nat.le_refl _) (.cells #[.int .i64 (x 0), .int .i64 (x 1), .int .i64 (x 2), .int .i64 (x 3), .int .i64 (x 4), .int .i64 (x 5), .int .i64 (x 6), .int .i64 (x 7), .int .i64 (x 8), .int .i64 (x 9), .int .i64 (x 10), .int .i64 (x 11), .int .i64 (x 12)] 29)))
          clear hb2 c0 c1 c2 c3 c4 c5 c6 c7 c8 c9 c10 c11 c12
          go_wp2_with fail
          generalize (w2.alloc (.cells #[.int .i64 (x 0), .int .i64 (x 1), .int .i64 (x 2), .int .i64 (x 3), .int .i64 (x 4), .int .i64 (x 5), .int .i64 (x 6), .int .i64 (x 7), .int .i64 (x 8), .int .i64 (x 9), .int .i64 (x 10), .int .i64 (x 11), .int .i64 (x 12)] 29)) = W3 at *
          generalize w2.heap.size = g7 at *
          refine (HCK.out _).mono ?_
          rintro e w4 ⟨a, rfl, hb4⟩
          have HB4 := Go.Lib.hid (HB2.out.trans (hb4.mono HB2.out.size))
          have HZ4 := Go.Lib.hid (row_below hb4 HZ2.out)
          have HC4 := Go.Lib.hid (row_below hb4 HC2.out)
          have HK4 := Go.Lib.hid (HK2.out.below (Nat.le_trans hB HB2.out.size) hb4)
          clear hb4 HB2 HZ2 HC2 HK2
          obtain ⟨RES, hRES⟩ : ∃ R, R = decP (l.drop (4 * 13)) [] := ⟨_, rfl⟩
          have HDE : Hid (∀ (es : List Ent) w' v, RES = some es → w'.ownsRow w.heap.size 56 8 v es.length (es.map Ent.cells).flatten → Below w.heap.size w w' → DecPost 56 w l (.returned (.tuple #[.agg #[.int .i64 (x 0), .int .i64 (x 1), .int .i64 (x 2), .int .i64 (x 3), .int .i64 (x 4), .int .i64 (x 5), .int .i64 (x 6), .int .i64 (x 7), .int .i64 (x 8), .int .i64 (x 9), .int .i64 (x 10), .int .i64 (x 11), .int .i64 (x 12)], v, .int .i64 0])) w') := Go.Lib.hid (fun es w' v hr ho hb => by
            rw [hRES] at hr
            have hk := dec_ok hs hokL hr
            refine ⟨v, ?_, ?_, hb⟩
            · rw [decX_ok hk, hk, ← HXE.out]
            · rw [decL_ok hk hr]; exact ho)
          have HDF : Hid (∀ w', RES = none → Below w.heap.size w w' → DecPost 56 w l (.returned (.tuple #[.agg #[.int .i64 0, .int .i64 0, .int .i64 0, .int .i64 0, .int .i64 0, .int .i64 0, .int .i64 0, .int .i64 0, .int .i64 0, .int .i64 0, .int .i64 0, .int .i64 0, .int .i64 0], .slice none 0 0, .int .i64 3])) w') := Go.Lib.hid (fun w' hr hb => by
            rw [hRES] at hr
            exact DecPost.no (dec_full hs hokL hr) (by decide) hb)
          have HRES := Go.Lib.hid hRES
          have HIN : Hid (∀ z ∈ l.drop (4 * 13), z < 256) := Go.Lib.hid (fun z hz => HBB.out z (List.mem_of_mem_drop hz))
          have HLN : Hid ((l.drop (4 * 13)).length ≤ 9000000000000000000) := Go.Lib.hid (by rw [List.length_drop]; omega)
          have hinfo : (Tryz.prog.info? 56).map (fun i => (i.zero, i.size, i.bytes)) = some (some (.agg #[.int .i64 0, .int .i64 0, .int .i64 0, .int .i64 0, .int .i64 0, .int .i64 0, .int .i64 0, .int .i64 0]), 8, 64) := by kernel_rfl
          obtain ⟨i0, hi0, hz0, hz1, hz2⟩ := info_parts hinfo
          have hund : Tryz.prog.underlying 30 = some (.slice 56) := by kernel_rfl
          clear hokL hRES
          go_wp2_with fail
          go_step3
          go_wp2_with fail
          have HNIL : Hid (w4.ownsRow w.heap.size 56 8 (.slice none 0 0) 0 (([] : List Ent).map Ent.cells).flatten) := Go.Lib.hid (World.ownsRow_nil _ _ _ _)
          go_loopw [0, 10, 11, 12, 13] (fun u0 u10 u11 u12 u13 wr => ∃ (b : List Nat) (es : List Ent), KBb B wr u0 b ∧ (∀ z ∈ b, z < 256) ∧ b.length ≤ 9000000000000000000 ∧ es.length ≤ 20000 ∧ decP b es = RES ∧ wr.ownsRow w.heap.size 56 8 u10 es.length (es.map Ent.cells).flatten ∧ wr.heap[w.heap.size]? = some (.cells #[.int .i64 0, .int .i64 0, .int .i64 0, .int .i64 0, .int .i64 0, .int .i64 0, .int .i64 0, .int .i64 0, .int .i64 0, .int .i64 0, .int .i64 0, .int .i64 0, .int .i64 0] 29) ∧ wr.heap[g7]? = some (.cells #[.int .i64 (x 0), .int .i64 (x 1), .int .i64 (x 2), .int .i64 (x 3), .int .i64 (x 4), .int .i64 (x 5), .int .i64 (x 6), .int .i64 (x 7), .int .i64 (x 8), .int .i64 (x 9), .int .i64 (x 10), .int .i64 (x 11), .int .i64 (x 12)] 29) ∧ Below w.heap.size w wr) (fun u0 _ _ _ _ _ => sliceLen u0)
          case atStart => exact ⟨_, [], HK4.out, HIN.out, HLN.out, by decide, HRES.out.symm, HNIL.out, HZ4.out, HC4.out, HB4.out⟩
          case round =>
            obtain ⟨b, es, hkb, hbb, hbl, hel, hdec, hown, hz, hc, hbw⟩ := hrel
            obtain ⟨pb, cb, rfl, _⟩ := id (KB.form hkb)
            obtain ⟨a10, c10, rfl⟩ := own_form hown
            have HKB := Go.Lib.hid hkb
            have HBB2 := Go.Lib.hid hbb
            have HDEC := Go.Lib.hid hdec
            have HOW := Go.Lib.hid hown
            have HZ := Go.Lib.hid hz
            have HC := Go.Lib.hid hc
            have HBW := Go.Lib.hid hbw
            clear hkb hbb hdec hown hz hc hbw HK4 HIN HLN HNIL HZ4 HC4 HB4
            by_cases hbe : b = []
            · subst hbe
              have HZF := HZ
              have HCF := HC
              have HBF := HBW
              have HOF9 := HOW
              go_wp2_with (first
                | (refine wpList_load_row (o := ⟨some 65, .load 29 _, _, _, _, _⟩) rfl 29 (.tmp 7) rfl g7 rfl 29 #[.int .i64 (x 0), .int .i64 (x 1), .int .i64 (x 2), .int .i64 (x 3), .int .i64 (x 4), .int .i64 (x 5), .int .i64 (x 6), .int .i64 (x 7), .int .i64 (x 8), .int .i64 (x 9), .int .i64 (x 10), .int .i64 (x 11), .int .i64 (x 12)] (0, 0) _ HCF.out Tryz.underlying29 rfl HI.out ?_)
                | (refine wpList_store_rowTo (o := ⟨none, .store 29 _ _, _, _, _, _⟩) rfl 29 (.tmp 2) (.tmp 65) rfl rfl w.heap.size #[.int .i64 (x 0), .int .i64 (x 1), .int .i64 (x 2), .int .i64 (x 3), .int .i64 (x 4), .int .i64 (x 5), .int .i64 (x 6), .int .i64 (x 7), .int .i64 (x 8), .int .i64 (x 9), .int .i64 (x 10), .int .i64 (x 11), .int .i64 (x 12)] rfl rfl 29 #[.int .i64 0, .int .i64 0, .int .i64 0, .int .i64 0, .int .i64 0, .int .i64 0, .int .i64 0, .int .i64 0, .int .i64 0, .int .i64 0, .int .i64 0, .int .i64 0, .int .i64 0] HZF.out HI.out rfl (by simp [show ∀ k n, (Value.int k n).oneCell' = true from fun _ _ => rfl]) ?_; refine Hid.out ?_)
                | fail)
              have HB9 := Go.Lib.hid (below_setRow HBF.out (Nat.le_refl _) #[.int .i64 (x 0), .int .i64 (x 1), .int .i64 (x 2), .int .i64 (x 3), .int .i64 (x 4), .int .i64 (x 5), .int .i64 (x 6), .int .i64 (x 7), .int .i64 (x 8), .int .i64 (x 9), .int .i64 (x 10), .int .i64 (x 11), .int .i64 (x 12)])
              have HZ9 := Go.Lib.hid (setRow_heap wr w.heap.size #[.int .i64 0, .int .i64 0, .int .i64 0, .int .i64 0, .int .i64 0, .int .i64 0, .int .i64 0, .int .i64 0, .int .i64 0, .int .i64 0, .int .i64 0, .int .i64 0, .int .i64 0] #[.int .i64 (x 0), .int .i64 (x 1), .int .i64 (x 2), .int .i64 (x 3), .int .i64 (x 4), .int .i64 (x 5), .int .i64 (x 6), .int .i64 (x 7), .int .i64 (x 8), .int .i64 (x 9), .int .i64 (x 10), .int .i64 (x 11), .int .i64 (x 12)] 29 (0, 0) HZF.out)
              have HO9 := Go.Lib.hid (own_setRow HOF9.out HZF.out (by decide) #[.int .i64 (x 0), .int .i64 (x 1), .int .i64 (x 2), .int .i64 (x 3), .int .i64 (x 4), .int .i64 (x 5), .int .i64 (x 6), .int .i64 (x 7), .int .i64 (x 8), .int .i64 (x 9), .int .i64 (x 10), .int .i64 (x 11), .int .i64 (x 12)])
              unfold Hid
              clear HBF HZF HCF HOF9
              generalize wr.setRow w.heap.size #[.int .i64 (x 0), .int .i64 (x 1), .int .i64 (x 2), .int .i64 (x 3), .int .i64 (x 4), .int .i64 (x 5), .int .i64 (x 6), .int .i64 (x 7), .int .i64 (x 8), .int .i64 (x 9), .int .i64 (x 10), .int .i64 (x 11), .int .i64 (x 12)] = w9 at *
              go_wp2_with fail
              exact bodyPost_ret (results_ctt (v1 := .slice a10 es.length c10) (v2 := .int .i64 0) rfl _ _ _ (b1 := w.heap.size) (r1 := #[.int .i64 (x 0), .int .i64 (x 1), .int .i64 (x 2), .int .i64 (x 3), .int .i64 (x 4), .int .i64 (x 5), .int .i64 (x 6), .int .i64 (x 7), .int .i64 (x 8), .int .i64 (x 9), .int .i64 (x 10), .int .i64 (x 11), .int .i64 (x 12)]) rfl rfl rfl HZ9.out rfl Tryz.underlying29 HI.out) rfl (HDE.out es _ _ (HDEC.out.symm.trans (decP_nil es)) HO9.out HB9.out)
            · have hb0 : 0 < b.length := List.length_pos_iff.2 hbe
              have HEN := Go.Lib.hid (script_entry HKB.out hbe (Nat.le_trans hB HBW.out.size) HBB2.out hbl)
              clear hbe
              go_wp2_with fail
              refine HEN.out.mono ?_
              rintro e w5 ⟨v1, v2, ok, rfl, hb5, hno, hyes⟩
              have HZ5 := Go.Lib.hid (row_below hb5 HZ.out)
              have HC5 := Go.Lib.hid (row_below hb5 HC.out)
              have HBW5 := Go.Lib.hid (HBW.out.trans (hb5.mono HBW.out.size))
              have HOW5 := Go.Lib.hid (own_below HOW.out hb5)
              have HSZ5 := Go.Lib.hid hb5.size
              clear hb5 HZ HC HBW HOW HKB HEN
              cases hen : entryP b with
              | none =>
                have hok := hno hen
                subst hok
                have HE9 := Go.Lib.hid (decP_none hen es)
                clear hno hyes hen
                have HZF := HZ5
                have HCF := HC5
                have HBF := HBW5
                have HOF9 := HOW5
                go_wp2_with (first
                  | (refine wpList_load_row (o := ⟨some 65, .load 29 _, _, _, _, _⟩) rfl 29 (.tmp 7) rfl g7 rfl 29 #[.int .i64 (x 0), .int .i64 (x 1), .int .i64 (x 2), .int .i64 (x 3), .int .i64 (x 4), .int .i64 (x 5), .int .i64 (x 6), .int .i64 (x 7), .int .i64 (x 8), .int .i64 (x 9), .int .i64 (x 10), .int .i64 (x 11), .int .i64 (x 12)] (0, 0) _ HCF.out Tryz.underlying29 rfl HI.out ?_)
                  | (refine wpList_store_rowTo (o := ⟨none, .store 29 _ _, _, _, _, _⟩) rfl 29 (.tmp 2) (.tmp 65) rfl rfl w.heap.size #[.int .i64 (x 0), .int .i64 (x 1), .int .i64 (x 2), .int .i64 (x 3), .int .i64 (x 4), .int .i64 (x 5), .int .i64 (x 6), .int .i64 (x 7), .int .i64 (x 8), .int .i64 (x 9), .int .i64 (x 10), .int .i64 (x 11), .int .i64 (x 12)] rfl rfl 29 #[.int .i64 0, .int .i64 0, .int .i64 0, .int .i64 0, .int .i64 0, .int .i64 0, .int .i64 0, .int .i64 0, .int .i64 0, .int .i64 0, .int .i64 0, .int .i64 0, .int .i64 0] HZF.out HI.out rfl (by simp [show ∀ k n, (Value.int k n).oneCell' = true from fun _ _ => rfl]) ?_; refine Hid.out ?_)
                  | fail)
                have HB9 := Go.Lib.hid (below_setRow HBF.out (Nat.le_refl _) #[.int .i64 (x 0), .int .i64 (x 1), .int .i64 (x 2), .int .i64 (x 3), .int .i64 (x 4), .int .i64 (x 5), .int .i64 (x 6), .int .i64 (x 7), .int .i64 (x 8), .int .i64 (x 9), .int .i64 (x 10), .int .i64 (x 11), .int .i64 (x 12)])
                have HZ9 := Go.Lib.hid (setRow_heap w5 w.heap.size #[.int .i64 0, .int .i64 0, .int .i64 0, .int .i64 0, .int .i64 0, .int .i64 0, .int .i64 0, .int .i64 0, .int .i64 0, .int .i64 0, .int .i64 0, .int .i64 0, .int .i64 0] #[.int .i64 (x 0), .int .i64 (x 1), .int .i64 (x 2), .int .i64 (x 3), .int .i64 (x 4), .int .i64 (x 5), .int .i64 (x 6), .int .i64 (x 7), .int .i64 (x 8), .int .i64 (x 9), .int .i64 (x 10), .int .i64 (x 11), .int .i64 (x 12)] 29 (0, 0) HZF.out)
                have HO9 := Go.Lib.hid (own_setRow HOF9.out HZF.out (by decide) #[.int .i64 (x 0), .int .i64 (x 1), .int .i64 (x 2), .int .i64 (x 3), .int .i64 (x 4), .int .i64 (x 5), .int .i64 (x 6), .int .i64 (x 7), .int .i64 (x 8), .int .i64 (x 9), .int .i64 (x 10), .int .i64 (x 11), .int .i64 (x 12)])
                unfold Hid
                clear HBF HZF HCF HOF9
                generalize w5.setRow w.heap.size #[.int .i64 (x 0), .int .i64 (x 1), .int .i64 (x 2), .int .i64 (x 3), .int .i64 (x 4), .int .i64 (x 5), .int .i64 (x 6), .int .i64 (x 7), .int .i64 (x 8), .int .i64 (x 9), .int .i64 (x 10), .int .i64 (x 11), .int .i64 (x 12)] = w9 at *
                go_wp2_with fail
                exact bodyPost_ret (results_ctt (v1 := .slice a10 es.length c10) (v2 := .int .i64 0) rfl _ _ _ (b1 := w.heap.size) (r1 := #[.int .i64 (x 0), .int .i64 (x 1), .int .i64 (x 2), .int .i64 (x 3), .int .i64 (x 4), .int .i64 (x 5), .int .i64 (x 6), .int .i64 (x 7), .int .i64 (x 8), .int .i64 (x 9), .int .i64 (x 10), .int .i64 (x 11), .int .i64 (x 12)]) rfl rfl rfl HZ9.out rfl Tryz.underlying29 HI.out) rfl (HDE.out es _ _ (HDEC.out.symm.trans HE9.out) HO9.out HB9.out)
              | some q =>
                obtain ⟨x9, t9, r9⟩ := q
                obtain ⟨hok, hk9, ho9⟩ := hyes x9 t9 r9 hen
                subst hok
                obtain ⟨a12, c12, rfl⟩ := own_form ho9
                have HO9 := Go.Lib.hid ho9
                have HK9 := Go.Lib.hid hk9
                have hlt9 := entryP_len hen
                have ht64 := entry_times hen HBB2.out
                have HR9 : Hid (∀ z ∈ r9, z < 256) := Go.Lib.hid (entry_bytes hen HBB2.out)
                have HLR : Hid (sliceLen v1 < sliceLen (Value.slice pb b.length cb)) := Go.Lib.hid (by obtain ⟨p9, c9, e9, _⟩ := KB.form hk9; rw [e9]; exact hlt9)
                by_cases hfull : 20000 < es.length + t9
                · have HF9 := Go.Lib.hid (HDEC.out.symm.trans (decP_full hen es hfull))
                  have hfi : (20000 : Int) < (es.length : Int) + (t9 : Int) := by omega
                  clear hno hyes hen hk9 ho9
                  go_wp2_with (first
                    | (refine wpList_store_rowTo (o := ⟨none, .store 29 _ _, _, _, _, _⟩) rfl 29 (.tmp 2) (.tmp 60) rfl rfl w.heap.size #[.int .i64 0, .int .i64 0, .int .i64 0, .int .i64 0, .int .i64 0, .int .i64 0, .int .i64 0, .int .i64 0, .int .i64 0, .int .i64 0, .int .i64 0, .int .i64 0, .int .i64 0] rfl rfl 29 #[.int .i64 0, .int .i64 0, .int .i64 0, .int .i64 0, .int .i64 0, .int .i64 0, .int .i64 0, .int .i64 0, .int .i64 0, .int .i64 0, .int .i64 0, .int .i64 0, .int .i64 0] HZ5.out HI.out rfl (by simp [show ∀ k n, (Value.int k n).oneCell' = true from fun _ _ => rfl]) ?_; refine Hid.out ?_)
                    | fail)
                  have HB9 := Go.Lib.hid (below_setRow HBW5.out (Nat.le_refl _) #[.int .i64 0, .int .i64 0, .int .i64 0, .int .i64 0, .int .i64 0, .int .i64 0, .int .i64 0, .int .i64 0, .int .i64 0, .int .i64 0, .int .i64 0, .int .i64 0, .int .i64 0])
                  have HZ9 := Go.Lib.hid (setRow_heap w5 w.heap.size #[.int .i64 0, .int .i64 0, .int .i64 0, .int .i64 0, .int .i64 0, .int .i64 0, .int .i64 0, .int .i64 0, .int .i64 0, .int .i64 0, .int .i64 0, .int .i64 0, .int .i64 0] #[.int .i64 0, .int .i64 0, .int .i64 0, .int .i64 0, .int .i64 0, .int .i64 0, .int .i64 0, .int .i64 0, .int .i64 0, .int .i64 0, .int .i64 0, .int .i64 0, .int .i64 0] 29 (0, 0) HZ5.out)
                  unfold Hid
                  clear HBW5 HZ5 HC5 HOW5
                  generalize w5.setRow w.heap.size #[.int .i64 0, .int .i64 0, .int .i64 0, .int .i64 0, .int .i64 0, .int .i64 0, .int .i64 0, .int .i64 0, .int .i64 0, .int .i64 0, .int .i64 0, .int .i64 0, .int .i64 0] = w9 at *
                  go_wp2_with fail
                  exact bodyPost_ret (results_ctt (v1 := .slice none 0 0) (v2 := .int .i64 3) rfl _ _ _ (b1 := w.heap.size) (r1 := #[.int .i64 0, .int .i64 0, .int .i64 0, .int .i64 0, .int .i64 0, .int .i64 0, .int .i64 0, .int .i64 0, .int .i64 0, .int .i64 0, .int .i64 0, .int .i64 0, .int .i64 0]) rfl rfl rfl HZ9.out rfl Tryz.underlying29 HI.out) rfl (HDF.out _ HF9.out HB9.out)
                · have HD9 := Go.Lib.hid ((decP_some hen es hfull).symm.trans HDEC.out)
                  have hfi : ((20000 : Int) < (es.length : Int) + (t9 : Int)) = False := by simp; omega
                  have hrl : ((List.replicate t9 x9).map Ent.cells).length = t9 := by rw [List.length_map, List.length_replicate]
                  have hr8 : ∀ r ∈ (List.replicate t9 x9).map Ent.cells, r.length = 8 := fun r hr => by obtain ⟨y, _, rfl⟩ := List.mem_map.1 hr; rfl
                  have hr1 : ∀ r ∈ (List.replicate t9 x9).map Ent.cells, ∀ u ∈ r, u.oneCell' = true := fun r hr u hu => by
                    obtain ⟨y, _, rfl⟩ := List.mem_map.1 hr
                    simp only [Ent.cells, List.mem_cons, List.not_mem_nil, or_false] at hu
                    rcases hu with rfl | rfl | rfl | rfl | rfl | rfl | rfl | rfl <;> rfl
                  have HKR : Hid (KRows (fun q => wr.heap.size ≤ q) w5 8 (.slice a12 t9 c12) ((List.replicate t9 x9).map Ent.cells)) := Go.Lib.hid (KRows.own (by rw [hrl]; exact HO9.out) hr8 (fun q hq => hq))
                  have HR8 := Go.Lib.hid hr8
                  have HR1 := Go.Lib.hid hr1
                  have HRL := Go.Lib.hid hrl
                  have hel2 : es.length + t9 ≤ 20000 := by omega
                  have HEQ : Hid (∀ K', ((es ++ List.replicate t9 x9).length = es.length + t9 ∧ ((es ++ List.replicate t9 x9).map Ent.cells).flatten = (es.map Ent.cells).flatten ++ ((List.replicate t9 x9).map Ent.cells).flatten) ∧ K' = K') := Go.Lib.hid (fun K' => ⟨⟨by rw [List.length_append, List.length_replicate], by rw [List.map_append, List.flatten_append]⟩, (rfl : (K' : Nat) = K')⟩)
                  clear hno hyes hen hk9 ho9 hrl hr8 hr1 hfull
                  go_wp2_with (first
                    | (at_builtin; refine wpList_append_rows rfl _ _ 30 rfl w.heap.size 56 i0 _ 8 64 hund hi0 hz0 hz1 hz2 rfl (by decide) _ es.length (es.map Ent.cells).flatten rfl HOW5.out _ (fun q => wr.heap.size ≤ q) ((List.replicate t9 x9).map Ent.cells) rfl HKR.out HR8.out HR1.out (by rw [HRL.out]; unfold maxLen; omega) (by rw [HRL.out]; omega) HBW5.out.size ?_; intro v6 w6 hown6 hgrow6)
                    | fail)
                  have HT := Go.Lib.hid ((OntoT.refl w.heap.size 56 w5).grown HOW5.out hgrow6 HBW5.out.size (Nat.le_refl _))
                  have HO6 := Go.Lib.hid hown6
                  clear hown6 hgrow6
                  go_roundw
                  case rel => exact ⟨r9, es ++ List.replicate t9 x9, KB.keep HK9.out (fun q hq => HT.out.below.block q (by omega)), HR9.out, by omega, by rw [(HEQ.out 0).1.1]; omega, HD9.out, by rw [(HEQ.out 0).1.1, (HEQ.out 0).1.2]; have := HO6.out; rw [HRL.out] at this; exact this, HT.out.keep _ _ _ _ (by decide) HZ5.out, HT.out.keep _ _ _ _ (by decide) HC5.out, HBW5.out.trans HT.out.below⟩
                  case measure => exact HLR.out
        · have HCK : Hid (∀ W, Calls Tryz.prog 24 #[.agg #[.int .i64 (x 0), .int .i64 (x 1), .int .i64 (x 2), .int .i64 (x 3), .int .i64 (x 4), .int .i64 (x 5), .int .i64 (x 6), .int .i64 (x 7), .int .i64 (x 8), .int .i64 (x 9), .int .i64 (x 10), .int .i64 (x 11), .int .i64 (x 12)]] W fun e w' => ∃ a : Int, e = .returned (.tuple #[.int .i64 a, .int .i64 7]) ∧ Below W.heap.size W w') := Go.Lib.hid (fun W => by
            have := plan_checkX x W
            rwa [if_neg hok] at this)
          have HD := Go.Lib.hid (fun w' (hb : Below w.heap.size w w') => DecPost.no (T := 56) (k := 7) (dec_bad hs (by rw [← HXE.out]; exact hok)) (by decide) hb)
          clear hok
          go_wp2_with fail
          refine (HOF.out _).mono ?_
          rintro e w2 ⟨rfl, hb2⟩
          have HB2 := Go.Lib.hid ((HBW.out.trans (hb2.mono HBW.out.size)).alloc (by have := HBW.out.size; have := hb2.size; omega) (.cells #[.int .i64 (x 0), .int .i64 (x 1), .int .i64 (x 2), .int .i64 (x 3), .int .i64 (x 4), .int .i64 (x 5), .int .i64 (x 6), .int .i64 (x 7), .int .i64 (x 8), .int .i64 (x 9), .int .i64 (x 10), .int .i64 (x 11), .int .i64 (x 12)] 29))
          have HZ2 := Go.Lib.hid (row_below (((Below.refl _ _).alloc (Nat.le_refl _) (.cells #[.int .i64 (x 0), .int .i64 (x 1), .int .i64 (x 2), .int .i64 (x 3), .int .i64 (x 4), .int .i64 (x 5), .int .i64 (x 6), .int .i64 (x 7), .int .i64 (x 8), .int .i64 (x 9), .int .i64 (x 10), .int .i64 (x 11), .int .i64 (x 12)] 29))) (row_below hb2 HZ.out))
          clear hb2 c0 c1 c2 c3 c4 c5 c6 c7 c8 c9 c10 c11 c12
          go_wp2_with fail
          generalize (w2.alloc (.cells #[.int .i64 (x 0), .int .i64 (x 1), .int .i64 (x 2), .int .i64 (x 3), .int .i64 (x 4), .int .i64 (x 5), .int .i64 (x 6), .int .i64 (x 7), .int .i64 (x 8), .int .i64 (x 9), .int .i64 (x 10), .int .i64 (x 11), .int .i64 (x 12)] 29)) = W3 at *
          refine (HCK.out _).mono ?_
          rintro e w4 ⟨a, rfl, hb4⟩
          have HB4 := Go.Lib.hid (HB2.out.trans (hb4.mono HB2.out.size))
          have HZ4 := Go.Lib.hid (row_below hb4 HZ2.out)
          clear hb4 HB2 HZ2
          go_wp2_with (first
            | (refine wpList_store_rowTo (o := ⟨none, .store 29 _ _, _, _, _, _⟩) rfl 29 (.tmp 2) (.tmp 39) rfl rfl w.heap.size #[.int .i64 0, .int .i64 0, .int .i64 0, .int .i64 0, .int .i64 0, .int .i64 0, .int .i64 0, .int .i64 0, .int .i64 0, .int .i64 0, .int .i64 0, .int .i64 0, .int .i64 0] rfl rfl 29 #[.int .i64 0, .int .i64 0, .int .i64 0, .int .i64 0, .int .i64 0, .int .i64 0, .int .i64 0, .int .i64 0, .int .i64 0, .int .i64 0, .int .i64 0, .int .i64 0, .int .i64 0] HZ4.out HI.out rfl (by simp [show ∀ k n, (Value.int k n).oneCell' = true from fun _ _ => rfl]) ?_; refine Hid.out ?_)
            | fail)
          have HB5 := Go.Lib.hid (below_setRow HB4.out (Nat.le_refl _) #[.int .i64 0, .int .i64 0, .int .i64 0, .int .i64 0, .int .i64 0, .int .i64 0, .int .i64 0, .int .i64 0, .int .i64 0, .int .i64 0, .int .i64 0, .int .i64 0, .int .i64 0])
          have HZ5 := Go.Lib.hid (setRow_heap w4 w.heap.size #[.int .i64 0, .int .i64 0, .int .i64 0, .int .i64 0, .int .i64 0, .int .i64 0, .int .i64 0, .int .i64 0, .int .i64 0, .int .i64 0, .int .i64 0, .int .i64 0, .int .i64 0] #[.int .i64 0, .int .i64 0, .int .i64 0, .int .i64 0, .int .i64 0, .int .i64 0, .int .i64 0, .int .i64 0, .int .i64 0, .int .i64 0, .int .i64 0, .int .i64 0, .int .i64 0] 29 (0, 0) HZ4.out)
          unfold Hid
          clear HB4 HZ4
          generalize w4.setRow w.heap.size #[.int .i64 0, .int .i64 0, .int .i64 0, .int .i64 0, .int .i64 0, .int .i64 0, .int .i64 0, .int .i64 0, .int .i64 0, .int .i64 0, .int .i64 0, .int .i64 0, .int .i64 0] = w5 at *
          go_wp2_with fail
          obtain ⟨d, hd1, hd2⟩ := HU.out
          exact bodyPost_ret (results_ctt (v1 := .slice none 0 0) (v2 := .int .i64 7) rfl _ _ _ (b1 := w.heap.size) (r1 := #[.int .i64 0, .int .i64 0, .int .i64 0, .int .i64 0, .int .i64 0, .int .i64 0, .int .i64 0, .int .i64 0, .int .i64 0, .int .i64 0, .int .i64 0, .int .i64 0, .int .i64 0]) rfl rfl rfl HZ5.out hd2 hd1 HI.out) rfl (HD.out _ HB5.out)
end Go.Proofs.YtdemhabgaimnmaaGreatDoor
