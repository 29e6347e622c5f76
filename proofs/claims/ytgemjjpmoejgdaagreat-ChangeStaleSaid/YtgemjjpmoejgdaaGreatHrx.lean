/- 'knelllaw17.ChangeStale' returns true for every input, and leaves its arguments as they were. No condition. -/
import Derived.Test.YtgemjjpmoejgdaaGreatHrw
import Derived.ProofKit
import Derived.OpenShut
import Derived.ChangeSlices
import Derived.Deep.Slices
import Derived.Test.YtgemjjpmoejgdaaGreatRows
import Derived.WalkKit
import Derived.ShutString
import Derived.ChangeOld
import Derived.Below
namespace Go.Proofs.YtgemjjpmoejgdaaGreat
open Go.ChangeShapes Go.WideShapes Go.ChangeAt Go.RowKit
set_option maxRecDepth 100000

theorem prog_own : ownKnob Tryz.prog.godebug = none := by kernel_rfl
theorem prog_laidOut : laidOutB Tryz.prog = true := by kernel_rfl

/-- A configuration that came in is thirteen numbers. -/
theorem config_open {W : World} {r : Reach} {base : Nat} {v : Value} (h : Value.okWide Tryz.prog W r base 23 v) :
    ∃ x : Nat → Int, v = .agg #[.int .i64 (x 0), .int .i64 (x 1), .int .i64 (x 2), .int .i64 (x 3), .int .i64 (x 4), .int .i64 (x 5), .int .i64 (x 6), .int .i64 (x 7), .int .i64 (x 8), .int .i64 (x 9), .int .i64 (x 10), .int .i64 (x 11), .int .i64 (x 12)] := by
  have ht : Tryz.prog.cellTypes Tryz.prog.depth 23 = some (List.replicate 13 3) := by kernel_rfl
  have hn : Tryz.prog.cellsOf 23 = 13 := by kernel_rfl
  simp only [Value.okWide, Tryz.underlying23] at h
  obtain ⟨cs, rfl, hsz, ts, hts, _, hc⟩ := h
  rw [hn] at hsz
  obtain rfl : ts = List.replicate 13 3 := by rw [ht] at hts; exact (Option.some.inj hts).symm
  refine ⟨fun i => intOf (cs.getD i .nilFunc), ?_⟩
  have key : ∀ i, (hi : i < 13) → cs.getD i .nilFunc = .int .i64 (intOf (cs.getD i .nilFunc)) := by
    intro i hi
    have hg : cs[i]? = some (cs.getD i .nilFunc) := by
      rw [Array.getD_eq_getD_getElem?]
      simp [hsz, hi]
    obtain ⟨u, hu, hok⟩ := hc i _ hg
    have hu' : u = 3 := by
      rw [List.getElem?_replicate] at hu
      split at hu
      · exact (Option.some.inj hu).symm
      · cases hu
    subst hu'
    generalize cs.getD i .nilFunc = y at hok ⊢
    unfold Cell.okWide at hok
    simp only [Tryz.underlying3] at hok
    unfold Cell.ok at hok
    simp only [Tryz.underlying3] at hok
    cases y <;> simp_all [intOf]
  have e : cs = Array.ofFn (n := 13) fun i => cs.getD i.val .nilFunc := by
    apply Array.ext
    · simp [hsz]
    · intro i h1 h2
      simp [Array.getD, h1]
  have e2 : cs = Array.ofFn (n := 13) fun i => .int .i64 (intOf (cs.getD i.val .nilFunc)) := by
    conv => lhs; rw [e]
    congr 1
    funext i
    exact key i.val i.isLt
  conv => lhs; rw [e2]
  rfl
end Go.Proofs.YtgemjjpmoejgdaaGreat
/- Deeds among a law's arguments: a struct of six numbers, and a slice of them. -/
namespace Go.Proofs.YtgemjjpmoejgdaaGreat
open Go.ChangeShapes Go.WideShapes Go.ChangeAt Go.RowKit Go.Deep
set_option maxRecDepth 100000

theorem deed_shape {W : World} {r : Reach} {base : Nat} {v : Value} (h : Value.okWide Tryz.prog W r base 38 v) :
    ∃ x : Nat → Int, v = .agg #[.int .i64 (x 0), .int .i64 (x 1), .int .i64 (x 2), .int .i64 (x 3), .int .i64 (x 4), .int .i64 (x 5)] := by
  have ht : Tryz.prog.cellTypes Tryz.prog.depth 38 = some (List.replicate 6 3) := by kernel_rfl
  have hn : Tryz.prog.cellsOf 38 = 6 := by kernel_rfl
  simp only [Value.okWide, Tryz.underlying38] at h
  obtain ⟨cs, rfl, hsz, ts, hts, _, hc⟩ := h
  rw [hn] at hsz
  obtain rfl : ts = List.replicate 6 3 := by rw [ht] at hts; exact (Option.some.inj hts).symm
  refine ⟨fun i => intOf (cs.getD i .nilFunc), ?_⟩
  have key : ∀ i, (hi : i < 6) → cs.getD i .nilFunc = .int .i64 (intOf (cs.getD i .nilFunc)) := by
    intro i hi
    have hg : cs[i]? = some (cs.getD i .nilFunc) := by
      rw [Array.getD_eq_getD_getElem?]
      simp [hsz, hi]
    obtain ⟨u, hu, hok⟩ := hc i _ hg
    have hu' : u = 3 := by
      rw [List.getElem?_replicate] at hu
      split at hu
      · exact (Option.some.inj hu).symm
      · cases hu
    subst hu'
    generalize cs.getD i .nilFunc = y at hok ⊢
    unfold Cell.okWide at hok
    simp only [Tryz.underlying3] at hok
    unfold Cell.ok at hok
    simp only [Tryz.underlying3] at hok
    cases y <;> simp_all [intOf]
  have e : cs = Array.ofFn (n := 6) fun i => cs.getD i.val .nilFunc := by
    apply Array.ext
    · simp [hsz]
    · intro i h1 h2
      simp [Array.getD, h1]
  have e2 : cs = Array.ofFn (n := 6) fun i => .int .i64 (intOf (cs.getD i.val .nilFunc)) := by
    conv => lhs; rw [e]
    congr 1
    funext i
    exact key i.val i.isLt
  conv => lhs; rw [e2]
  rfl
instance : Inhabited DeedR := ⟨⟨0, 0, 0, 0, 0, 0⟩⟩
section
variable {H : Type} {enc : TypeId × Value → H} {W : World} {base : Nat} {spare : Nat → Bool} {held : Bool}
theorem deed_cells {fuel : Nat} {cs : List Value} {x : DataW H × List MemPlace} (h : DataW.trod enc Tryz.prog W base spare held fuel 38 cs = some x) :
    ∃ y : Nat → Int, cs = [.int .i64 (y 0), .int .i64 (y 1), .int .i64 (y 2), .int .i64 (y 3), .int .i64 (y 4), .int .i64 (y 5)] ∧ ∀ i, i < 6 → (Lit.int .i64 (y i)).wf = true := by
  obtain ⟨xs, n, _, rfl, hl, hlen, hf⟩ := DataW.trod_struct Tryz.underlying38 h
  have hn : Tryz.prog.cellsOf 38 = 6 := by kernel_rfl
  have h1 : Tryz.prog.cellsOf 3 = 1 := by kernel_rfl
  have h2 : Tryz.prog.cellsOf 36 = 2 := by kernel_rfl
  rw [hn] at hl
  match xs, hlen, cs, hl with
  | [y0, y1, y2, y3, y4], _, [v0, v1, v2, v3, v4, v5], _ =>
    have g0 : DataW.trod enc Tryz.prog W base spare held n 3 (List.take (Tryz.prog.cellsOf 3) [v0, v1, v2, v3, v4, v5]) = some y0 := hf 0 _ rfl
    have g1 : DataW.trod enc Tryz.prog W base spare held n 36 (List.take (Tryz.prog.cellsOf 36) [v1, v2, v3, v4, v5]) = some y1 := hf 1 _ rfl
    have g3 : DataW.trod enc Tryz.prog W base spare held n 3 (List.take (Tryz.prog.cellsOf 3) [v3, v4, v5]) = some y2 := hf 2 _ rfl
    have g4 : DataW.trod enc Tryz.prog W base spare held n 3 (List.take (Tryz.prog.cellsOf 3) [v4, v5]) = some y3 := hf 3 _ rfl
    have g5 : DataW.trod enc Tryz.prog W base spare held n 3 (List.take (Tryz.prog.cellsOf 3) [v5]) = some y4 := hf 4 _ rfl
    rw [h1] at g0 g3 g4 g5
    rw [h2] at g1
    obtain ⟨n0, e0, _, k0⟩ := DataW.trod_int Tryz.underlying3 (x := y0) (cs := [v0]) g0
    obtain ⟨a1, a2, m, _, _, q1, q2⟩ := trod_struct2 Tryz.underlying36 (x := y1) (cs := [v1, v2]) g1
    replace q1 : DataW.trod enc Tryz.prog W base spare held m 3 (List.take (Tryz.prog.cellsOf 3) [v1, v2]) = some a1 := q1
    replace q2 : DataW.trod enc Tryz.prog W base spare held m 3 (List.take (Tryz.prog.cellsOf 3) [v2]) = some a2 := q2
    rw [h1] at q1 q2
    obtain ⟨n1, e1, _, k1⟩ := DataW.trod_int Tryz.underlying3 (x := a1) (cs := [v1]) q1
    obtain ⟨n2, e2, _, k2⟩ := DataW.trod_int Tryz.underlying3 (x := a2) (cs := [v2]) q2
    obtain ⟨n3, e3, _, k3⟩ := DataW.trod_int Tryz.underlying3 (x := y2) (cs := [v3]) g3
    obtain ⟨n4, e4, _, k4⟩ := DataW.trod_int Tryz.underlying3 (x := y3) (cs := [v4]) g4
    obtain ⟨n5, e5, _, k5⟩ := DataW.trod_int Tryz.underlying3 (x := y4) (cs := [v5]) g5
    injection e0 with e0
    injection e1 with e1
    injection e2 with e2
    injection e3 with e3
    injection e4 with e4
    injection e5 with e5
    subst e0 e1 e2 e3 e4 e5
    refine ⟨fun i => [n0, n1, n2, n3, n4, n5].getD i 0, rfl, fun i hi => ?_⟩
    match i, hi with
    | 0, _ => exact k0
    | 1, _ => exact k1
    | 2, _ => exact k2
    | 3, _ => exact k3
    | 4, _ => exact k4
    | 5, _ => exact k5
theorem wf_hi {y : Int} (h : (Lit.int .i64 y).wf = true) : y < 9223372036854775808 := by
  have := bounds_i64 h
  omega
def deedOf (y : Nat → Int) : DeedR := ⟨y 0, y 1, y 2, y 3, y 4, y 5⟩
theorem deed_open {r : Reach} {b0 : Nat} {v : Value} {d : DataW H} {ps : List MemPlace} (hv : Value.okWide Tryz.prog W r b0 38 v) (ht : DataW.Trod enc Tryz.prog W base spare held 38 v d ps) :
    ∃ x : DeedR, v = .agg #[.int .i64 x.op, .int .i64 x.hn, .int .i64 x.hg, .int .i64 x.time, .int .i64 x.arg, .int .i64 x.user] ∧ x.time < 9223372036854775808 ∧ x.user < 9223372036854775808 := by
  obtain ⟨y, rfl⟩ := deed_shape hv
  obtain ⟨fuel, hf⟩ := ht
  obtain ⟨z, hz, hw⟩ := deed_cells hf
  simp [Value.cells] at hz
  obtain ⟨e0, e1, e2, e3, e4, e5⟩ := hz
  refine ⟨deedOf y, rfl, ?_, ?_⟩
  · have := wf_hi (hw 3 (by decide))
    show y 3 < _
    omega
  · have := wf_hi (hw 5 (by decide))
    show y 5 < _
    omega
theorem deeds_open {v : Value} {fuel : Nat} {x : DataW H × List MemPlace} (h : DataW.trod enc Tryz.prog W base spare held fuel 24 [v] = some x) :
    ∃ ds : List DeedR, DeedsRow W v ds ∧ ∀ d ∈ ds, d.time < 9223372036854775808 ∧ d.user < 9223372036854775808 := by
  have hn : Tryz.prog.cellsOf 38 = 6 := by kernel_rfl
  rcases open_slice Tryz.underlying24 h with ⟨hc, _⟩ | ⟨a, len, cap, m, n, D, Pl, hc, _, hl, _, hm, _, hx⟩
  · injection hc with hc _
    subst hc
    exact ⟨[], ⟨none, 0, rfl, fun i d hi => by cases hi⟩, fun d hd => by cases hd⟩
  · injection hc with hc _
    subst hc
    have hlm : len ≤ m := by rw [hm]; split <;> omega
    have each : ∀ i, i < len → ∃ d : DeedR, DeedAt W (a.add (i * 6)) d ∧ d.time < 9223372036854775808 ∧ d.user < 9223372036854775808 := by
      intro i hi
      obtain ⟨cs', h1, h2⟩ := hx i (by omega)
      rw [hn] at h1
      obtain ⟨_, _, hcell⟩ := World.cells?_some h1
      obtain ⟨y, rfl, hw⟩ := deed_cells h2
      exact ⟨deedOf y, ⟨hcell 0 (by decide), hcell 1 (by decide), hcell 2 (by decide), hcell 3 (by decide), hcell 4 (by decide), hcell 5 (by decide)⟩, wf_hi (hw 3 (by decide)), wf_hi (hw 5 (by decide))⟩
    obtain ⟨f, hf⟩ := choose_lt each
    refine ⟨(List.range len).map f, ⟨some a, cap, by rw [List.length_map, List.length_range], fun i d hi => ?_⟩, fun d hd => ?_⟩
    · rw [List.getElem?_map] at hi
      by_cases hlt : i < len
      · rw [List.getElem?_range hlt] at hi
        cases hi
        exact ⟨a, rfl, (hf i hlt).1⟩
      · rw [List.getElem?_eq_none (by rw [List.length_range]; omega)] at hi
        cases hi
    · obtain ⟨i, hi, rfl⟩ := List.mem_map.1 hd
      exact (hf i (List.mem_range.1 hi)).2
end
end Go.Proofs.YtgemjjpmoejgdaaGreat
namespace Go.Proofs.YtgemjjpmoejgdaaGreat
open Go.ChangeShapes Go.WideShapes Go.ChangeAt Go.RowKit
set_option maxRecDepth 100000

theorem changeStale_lifted (os : Os) (started : os.Started) (H : Type) (enc : TypeId × Value → H) :
    ReturnsInHanded {} Tryz.checked os 7 .any (Rows.changeStaleSpec.pre6 enc Tryz.prog Tryz.f7 Rows.changeStaleRow.domain false) (Rows.changeStaleSpec.post enc Tryz.prog Tryz.f7 false true false false) := by
  refine returnsInHanded_of_change (C := Tryz.checked) prog_own started (by kernel_rfl) Tryz.func7
    (ChangeSpec.witness6 (enc := enc) (C := Tryz.checked) false ⟨#[], #[.agg #[.int .i64 0, .int .i64 0, .int .i64 0, .int .i64 0, .int .i64 0, .int .i64 0, .int .i64 0, .int .i64 0, .int .i64 0, .int .i64 0, .int .i64 0, .int .i64 0, .int .i64 0], .slice none 0 0, .agg #[.int .i64 0, .int .i64 0, .int .i64 0, .int .i64 0, .int .i64 0, .int .i64 0]], []⟩ 8 (by kernel_rfl) (by kernel_rfl) (by kernel_rfl) (by kernel_rfl)) ?_
  intro W base args ds gs before hval0 hW hcnd _
  have hval : ∀ (j : Nat) t v, Tryz.f7.params[j]? = some t → args[j]? = some v → Value.okWide Tryz.prog W .any base t v := hval0
  have hW' := hW
  obtain ⟨p, q, hA0, hV, rfl, hfz, hnd⟩ := hW
  have hA : DataW.TrodAll enc Tryz.prog W 0 (fun _ => true) true Tryz.f7.params.toList args.toList ds p := hA0
  rw [Tryz.params7] at hA hval
  obtain ⟨v0, vs0, d0, ds0, p0, q0, hargs, rfl, rfl, h0, r0⟩ := trodAll_cons hA
  obtain ⟨v1, vs1, d1, ds1, p1, q1, rfl, rfl, rfl, h1, r1⟩ := trodAll_cons r0
  obtain ⟨v2, vs2, d2, ds2, p2, q2, rfl, rfl, rfl, h2, r2⟩ := trodAll_cons r1
  obtain ⟨rfl, rfl, rfl⟩ := trodAll_nil r2
  obtain rfl : args = #[v0, v1, v2] := by cases args; simp_all
  obtain ⟨rfl, rfl⟩ := trodVars_none hV
  obtain ⟨x, rfl⟩ := config_open (hval 0 23 v0 rfl rfl)
  have lt0 : ∀ x ∈ p0, x.block < W.heap.size := by obtain ⟨m, hm⟩ := h0; exact DataW.trod_lt m _ _ _ hm
  obtain ⟨m1, y1, ht1⟩ : ∃ m y, DataW.trod enc Tryz.prog W 0 (fun _ => true) true m 24 [v1] = some y := by obtain ⟨m, hm⟩ := h1; obtain ⟨p, l, c, rfl⟩ := okWide_slice Tryz.underlying24 (hval 1 24 v1 rfl rfl); exact ⟨m, _, hm⟩
  obtain ⟨x1, hr1, hb1⟩ := deeds_open ht1
  have lt1 : ∀ x ∈ p1, x.block < W.heap.size := by obtain ⟨m, hm⟩ := h1; exact DataW.trod_lt m _ _ _ hm
  obtain ⟨x2, rfl, hb2⟩ := deed_open (hval 2 38 v2 rfl rfl) h2
  have lt2 : ∀ x ∈ p2, x.block < W.heap.size := by obtain ⟨m, hm⟩ := h2; exact DataW.trod_lt m _ _ _ hm
  clear hA0 hval0
  refine (law17_ChangeStale x x1 v1 x2  W hr1 hb1 hb2).mono fun e W' ⟨he, bel⟩ => ?_
  subst he
  exact ⟨_, rfl, _, _, _, [], _, [], hW', trodAll_mk1 (shut_bool Tryz.underlying4 _), (trodAll_cons_mk (Below.trod prog_laidOut (by kernel_rfl) (of_decide_eq_true (by kernel_rfl)) h0 bel lt0) (trodAll_cons_mk (Below.trod prog_laidOut (by kernel_rfl) (of_decide_eq_true (by kernel_rfl)) h1 bel lt1) (trodAll_cons_mk (Below.trod prog_laidOut (by kernel_rfl) (of_decide_eq_true (by kernel_rfl)) h2 bel lt2) trodAll_mk0))), rfl, bel.frame _, fun h => by cases h⟩

theorem changeStale_holds : Rows.ChangeStaleSaid :=
  OpenClaim.holds_of_wide 7 Tryz.f7 rfl rfl rfl rfl rfl rfl rfl ⟨rfl, rfl, rfl, rfl, rfl⟩ rfl rfl rfl rfl rfl (by kernel_rfl) Tryz.func7 (by kernel_rfl)
    (of_decide_eq_true (by kernel_rfl)) (by unfold Func.isWrapper; first | (rw [if_pos (by decide +kernel)]; kernel_rfl) | (rw [if_neg (by decide +kernel)]; exact ⟨rfl, rfl⟩))
    (fun os started H enc _ => changeStale_lifted os started H enc)
#print axioms changeStale_holds
end Go.Proofs.YtgemjjpmoejgdaaGreat
