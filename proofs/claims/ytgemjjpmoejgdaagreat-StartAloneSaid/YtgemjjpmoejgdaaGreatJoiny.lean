/- What a row's proof opens: a configuration that came in; facts on the program. -/
import Derived.Test.YtgemjjpmoejgdaaGreatJoinx
import Derived.ProofKit
import Derived.OpenShut
import Derived.ChangeSlices
import Derived.Deep.Slices
namespace Go.Proofs.YtgemjjpmoejgdaaGreat
open Go.ChangeShapes Go.WideShapes Go.ChangeAt Go.RowKit
set_option maxRecDepth 100000

theorem prog_own : ownKnob Tryz.prog.godebug = none := by kernel_rfl
theorem prog_laidOut : laidOutB Tryz.prog = true := by kernel_rfl

/-- A configuration that came in is thirteen numbers. -/
theorem config_open {W : World} {r : Reach} {base : Nat} {v : Value} (h : Value.okWide Tryz.prog W r base 23 v) :
    ∃ x : Nat → Int, v = .agg #[.int .i64 (x 0), .int .i64 (x 1), .int .i64 (x 2), .int .i64 (x 3), .int .i64 (x 4), .int .i64 (x 5), .int .i64 (x 6), .int .i64 (x 7), .int .i64 (x 8), .int .i64 (x 9), .int .i64 (x 10), .int .i64 (x 11), .int .i64 (x 12)] := by
  have ht : Tryz.prog.cellTypes Tryz.prog.depth 23 = some (List.replicate 13 3) := by kernel_rfl
  have hn : Tryz.prog.cellsOf 23 = 13 := by kernel_rfl
  simp only [Value.okWide, Tryz.underlying23] at h
  obtain ⟨cs, rfl, hsz, ts, hts, _, hc⟩ := h
  rw [hn] at hsz
  obtain rfl : ts = List.replicate 13 3 := by rw [ht] at hts; exact (Option.some.inj hts).symm
  refine ⟨fun i => intOf (cs.getD i .nilFunc), ?_⟩
  have key : ∀ i, (hi : i < 13) → cs.getD i .nilFunc = .int .i64 (intOf (cs.getD i .nilFunc)) := by
    intro i hi
    have hg : cs[i]? = some (cs.getD i .nilFunc) := by
      rw [Array.getD_eq_getD_getElem?]
      simp [hsz, hi]
    obtain ⟨u, hu, hok⟩ := hc i _ hg
    have hu' : u = 3 := by
      rw [List.getElem?_replicate] at hu
      split at hu
      · exact (Option.some.inj hu).symm
      · cases hu
    subst hu'
    generalize cs.getD i .nilFunc = y at hok ⊢
    unfold Cell.okWide at hok
    simp only [Tryz.underlying3] at hok
    unfold Cell.ok at hok
    simp only [Tryz.underlying3] at hok
    cases y <;> simp_all [intOf]
  have e : cs = Array.ofFn (n := 13) fun i => cs.getD i.val .nilFunc := by
    apply Array.ext
    · simp [hsz]
    · intro i h1 h2
      simp [Array.getD, h1]
  have e2 : cs = Array.ofFn (n := 13) fun i => .int .i64 (intOf (cs.getD i.val .nilFunc)) := by
    conv => lhs; rw [e]
    congr 1
    funext i
    exact key i.val i.isLt
  conv => lhs; rw [e2]
  rfl
end Go.Proofs.YtgemjjpmoejgdaaGreat
/- Deeds among a law's arguments: a struct of six numbers, and a slice of them. -/
namespace Go.Proofs.YtgemjjpmoejgdaaGreat
open Go.ChangeShapes Go.WideShapes Go.ChangeAt Go.RowKit Go.Deep
set_option maxRecDepth 100000

instance : Inhabited DeedR := ⟨⟨0, 0, 0, 0, 0, 0⟩⟩
section
variable {H : Type} {enc : TypeId × Value → H} {W : World} {base : Nat} {spare : Nat → Bool} {held : Bool}
theorem deed_cells {fuel : Nat} {cs : List Value} {x : DataW H × List MemPlace} (h : DataW.trod enc Tryz.prog W base spare held fuel 38 cs = some x) :
    ∃ y : Nat → Int, cs = [.int .i64 (y 0), .int .i64 (y 1), .int .i64 (y 2), .int .i64 (y 3), .int .i64 (y 4), .int .i64 (y 5)] ∧ ∀ i, i < 6 → (Lit.int .i64 (y i)).wf = true := by
  obtain ⟨xs, n, _, rfl, hl, hlen, hf⟩ := DataW.trod_struct Tryz.underlying38 h
  have hn : Tryz.prog.cellsOf 38 = 6 := by kernel_rfl
  have h1 : Tryz.prog.cellsOf 3 = 1 := by kernel_rfl
  have h2 : Tryz.prog.cellsOf 36 = 2 := by kernel_rfl
  rw [hn] at hl
  match xs, hlen, cs, hl with
  | [y0, y1, y2, y3, y4], _, [v0, v1, v2, v3, v4, v5], _ =>
    have g0 : DataW.trod enc Tryz.prog W base spare held n 3 (List.take (Tryz.prog.cellsOf 3) [v0, v1, v2, v3, v4, v5]) = some y0 := hf 0 _ rfl
    have g1 : DataW.trod enc Tryz.prog W base spare held n 36 (List.take (Tryz.prog.cellsOf 36) [v1, v2, v3, v4, v5]) = some y1 := hf 1 _ rfl
    have g3 : DataW.trod enc Tryz.prog W base spare held n 3 (List.take (Tryz.prog.cellsOf 3) [v3, v4, v5]) = some y2 := hf 2 _ rfl
    have g4 : DataW.trod enc Tryz.prog W base spare held n 3 (List.take (Tryz.prog.cellsOf 3) [v4, v5]) = some y3 := hf 3 _ rfl
    have g5 : DataW.trod enc Tryz.prog W base spare held n 3 (List.take (Tryz.prog.cellsOf 3) [v5]) = some y4 := hf 4 _ rfl
    rw [h1] at g0 g3 g4 g5
    rw [h2] at g1
    obtain ⟨n0, e0, _, k0⟩ := DataW.trod_int Tryz.underlying3 (x := y0) (cs := [v0]) g0
    obtain ⟨a1, a2, m, _, _, q1, q2⟩ := trod_struct2 Tryz.underlying36 (x := y1) (cs := [v1, v2]) g1
    replace q1 : DataW.trod enc Tryz.prog W base spare held m 3 (List.take (Tryz.prog.cellsOf 3) [v1, v2]) = some a1 := q1
    replace q2 : DataW.trod enc Tryz.prog W base spare held m 3 (List.take (Tryz.prog.cellsOf 3) [v2]) = some a2 := q2
    rw [h1] at q1 q2
    obtain ⟨n1, e1, _, k1⟩ := DataW.trod_int Tryz.underlying3 (x := a1) (cs := [v1]) q1
    obtain ⟨n2, e2, _, k2⟩ := DataW.trod_int Tryz.underlying3 (x := a2) (cs := [v2]) q2
    obtain ⟨n3, e3, _, k3⟩ := DataW.trod_int Tryz.underlying3 (x := y2) (cs := [v3]) g3
    obtain ⟨n4, e4, _, k4⟩ := DataW.trod_int Tryz.underlying3 (x := y3) (cs := [v4]) g4
    obtain ⟨n5, e5, _, k5⟩ := DataW.trod_int Tryz.underlying3 (x := y4) (cs := [v5]) g5
    injection e0 with e0
    injection e1 with e1
    injection e2 with e2
    injection e3 with e3
    injection e4 with e4
    injection e5 with e5
    subst e0 e1 e2 e3 e4 e5
    refine ⟨fun i => [n0, n1, n2, n3, n4, n5].getD i 0, rfl, fun i hi => ?_⟩
    match i, hi with
    | 0, _ => exact k0
    | 1, _ => exact k1
    | 2, _ => exact k2
    | 3, _ => exact k3
    | 4, _ => exact k4
    | 5, _ => exact k5
theorem wf_hi {y : Int} (h : (Lit.int .i64 y).wf = true) : y < 9223372036854775808 := by
  have := bounds_i64 h
  omega
def deedOf (y : Nat → Int) : DeedR := ⟨y 0, y 1, y 2, y 3, y 4, y 5⟩
end
end Go.Proofs.YtgemjjpmoejgdaaGreat
/- Numbers (a slice of int) among a law's arguments. -/
namespace Go.Proofs.YtgemjjpmoejgdaaGreat
open Go.ChangeShapes Go.WideShapes Go.ChangeAt Go.RowKit Go.Deep
set_option maxRecDepth 100000

/-- A slice of numbers. -/
def IntsRow (w : World) (v : Value) (zs : List Int) : Prop := ∃ p c, v = .slice p zs.length c ∧ ∀ i z, zs[i]? = some z → ∃ a, p = some a ∧ w.cell? (a.add i) = some (.int .i64 z)
theorem IntsRow.below {w w' : World} {v : Value} {zs : List Int} (h : IntsRow w v zs) (hb : Below w.heap.size w w') : IntsRow w' v zs := by
  obtain ⟨p, c, rfl, h1⟩ := h
  refine ⟨p, c, rfl, fun i z hi => ?_⟩
  obtain ⟨a, rfl, h2⟩ := h1 i z hi
  exact ⟨a, rfl, below_cell hb h2⟩
section
variable {H : Type} {enc : TypeId × Value → H} {W : World} {base : Nat} {spare : Nat → Bool} {held : Bool}
theorem ints_open {v : Value} {fuel : Nat} {x : DataW H × List MemPlace} (h : DataW.trod enc Tryz.prog W base spare held fuel 25 [v] = some x) :
    ∃ zs : List Int, IntsRow W v zs ∧ ∀ z ∈ zs, -9223372036854775808 ≤ z ∧ z < 9223372036854775808 := by
  rcases open_ints Tryz.underlying25 Tryz.underlying3 (by kernel_rfl) h with ⟨hc, _⟩ | ⟨a, len, cap, zs, hc, _, hl, _, hzl, _, hcell, hwf⟩
  · injection hc with hc _
    subst hc
    exact ⟨[], ⟨none, 0, rfl, fun i d hi => by cases hi⟩, fun d hd => by cases hd⟩
  · injection hc with hc _
    subst hc
    have hlm : len ≤ zs.length := by rw [hzl]; split <;> omega
    refine ⟨zs.take len, ⟨some a, cap, by rw [List.length_take, Nat.min_eq_left hlm], fun i z hi => ⟨a, rfl, ?_⟩⟩, fun z hz => ?_⟩
    · have hil : i < len := by
        by_cases q : i < len
        · exact q
        · rw [List.getElem?_eq_none (by rw [List.length_take]; omega)] at hi
          cases hi
      have hil2 : i < zs.length := by omega
      rw [List.getElem?_take, if_pos hil, List.getElem?_eq_getElem hil2] at hi
      cases hi
      rw [hcell i hil2, List.getD_eq_getElem?_getD, List.getElem?_eq_getElem hil2]
      rfl
    · have := bounds_i64 (hwf z (List.mem_of_mem_take hz))
      omega
theorem wf_lo {y : Int} (h : (Lit.int .i64 y).wf = true) : -9223372036854775808 ≤ y := by
  have := bounds_i64 h
  omega
theorem deeds_open2 {v : Value} {fuel : Nat} {x : DataW H × List MemPlace} (h : DataW.trod enc Tryz.prog W base spare held fuel 24 [v] = some x) :
    ∃ ds : List DeedR, DeedsRow W v ds ∧ ∀ d ∈ ds, -9223372036854775808 ≤ d.time ∧ d.time < 9223372036854775808 ∧ -9223372036854775808 ≤ d.user ∧ d.user < 9223372036854775808 := by
  have hn : Tryz.prog.cellsOf 38 = 6 := by kernel_rfl
  rcases open_slice Tryz.underlying24 h with ⟨hc, _⟩ | ⟨a, len, cap, m, n, D, Pl, hc, _, hl, _, hm, _, hx⟩
  · injection hc with hc _
    subst hc
    exact ⟨[], ⟨none, 0, rfl, fun i d hi => by cases hi⟩, fun d hd => by cases hd⟩
  · injection hc with hc _
    subst hc
    have hlm : len ≤ m := by rw [hm]; split <;> omega
    have each : ∀ i, i < len → ∃ d : DeedR, DeedAt W (a.add (i * 6)) d ∧ -9223372036854775808 ≤ d.time ∧ d.time < 9223372036854775808 ∧ -9223372036854775808 ≤ d.user ∧ d.user < 9223372036854775808 := by
      intro i hi
      obtain ⟨cs', h1, h2⟩ := hx i (by omega)
      rw [hn] at h1
      obtain ⟨_, _, hcell⟩ := World.cells?_some h1
      obtain ⟨y, rfl, hw⟩ := deed_cells h2
      exact ⟨deedOf y, ⟨hcell 0 (by decide), hcell 1 (by decide), hcell 2 (by decide), hcell 3 (by decide), hcell 4 (by decide), hcell 5 (by decide)⟩, wf_lo (hw 3 (by decide)), wf_hi (hw 3 (by decide)), wf_lo (hw 5 (by decide)), wf_hi (hw 5 (by decide))⟩
    obtain ⟨f, hf⟩ := choose_lt each
    refine ⟨(List.range len).map f, ⟨some a, cap, by rw [List.length_map, List.length_range], fun i d hi => ?_⟩, fun d hd => ?_⟩
    · rw [List.getElem?_map] at hi
      by_cases hlt : i < len
      · rw [List.getElem?_range hlt] at hi
        cases hi
        exact ⟨a, rfl, (hf i hlt).1⟩
      · rw [List.getElem?_eq_none (by rw [List.length_range]; omega)] at hi
        cases hi
    · obtain ⟨i, hi, rfl⟩ := List.mem_map.1 hd
      exact (hf i (List.mem_range.1 hi)).2
end
end Go.Proofs.YtgemjjpmoejgdaaGreat
