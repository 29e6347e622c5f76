/- Code that is done to its end. -/
import Derived.Test.YtlbjjooiiikmjaaGreatTa
namespace Go.Proofs.YtlbjjooiiikmjaaGreat
open Go.RowKit
set_option maxRecDepth 100000
set_option linter.unusedVariables false

section
variable {ρ : Type} {R : ρ → Arg → St → St × Option (K ρ)} {cf : Cf} {E : G} {t : Nat}

/-- Code ends within so many steps, each of which touches one cell at most. -/
inductive Runs (cf : Cf) (R : ρ → Arg → St → St × Option (K ρ)) : K ρ → St → Nat → St → Prop
  | last {κ : K ρ} {S S' : St} : step cf R κ S = (S', none) → Bd S' → S'.cnt ≤ S.cnt + 1 → Runs cf R κ S 1 S'
  | more {κ κ1 : K ρ} {S S1 S' : St} {m : Nat} : step cf R κ S = (S1, some κ1) → Bd S1 → S1.cnt ≤ S.cnt + 1 → Runs cf R κ1 S1 m S' → Runs cf R κ S (m + 1) S'
theorem Runs.pos {κ : K ρ} {S S' : St} {m : Nat} (h : Runs cf R κ S m S') : 1 ≤ m := by cases h <;> omega

set_option maxHeartbeats 4000000 in
theorem law15_done {L : Lab} {S S' : St} {w : World} {v : Value} {κ : K ρ} {m most : Nat} (hg : Good E L S w) (ht : t < 4000) (hm : m ≤ most) (hmo : most ≤ 1000000) (hk : CodeSim cf R E t (m + 1) L w v (some κ)) (hr : Runs cf R κ S m S') :
    Calls Tryz.prog 18 #[.pointer (some ⟨E.k, 0, none⟩), v, .int .i64 most] w fun e w' => ∃ L', e = .returned (.bool true) ∧ Good E L' S' w' ∧ DidP (TP t) L w L' w' := by
  obtain ⟨f, cap, rfl, hf, _⟩ := id hk
  obtain ⟨hg1, ht1, hx1⟩ := hg.task t (.func (.func f) #[] cap) 131
  have hk1 := CodeSim.ext cf R E t hk hx1
  have hd1 : DidP (TP t) L w (fun b => if b = w.heap.size then 5000 + t else L b) (w.alloc (.cells #[.func (.func f) #[] cap, .int .i64 0] 131)) := ⟨rfl, rfl, rfl, by simp, fun b hb _ => Below.heap_alloc _ _ _ hb, fun b hb => by rw [if_neg (by omega)]⟩
  have HI := Go.Lib.hid (And.intro hg1 (And.intro ht1 (And.intro hk1 hd1)))
  have HR := Go.Lib.hid hr
  have HN := Go.Lib.hid (step_New f #[] cap w)
  clear hg1 ht1 hx1 hk1 hd1 hk hr hf hg
  generalize (fun b => if b = w.heap.size then 5000 + t else L b) = L1 at *
  go_enter Tryz.func18, Tryz.ntmps18
  go_wp2_with fail
  refine HN.out.mono ?_
  rintro e w' ⟨rfl, rfl⟩
  generalize (w.alloc (.cells #[.func (.func f) #[] cap, .int .i64 0] 131)) = W1 at *
  generalize w.heap.size = tb at *
  go_wp2
  go_loopw [8, 14] (fun _ i wr => ∃ (j : Nat) (κ1 : K ρ) (S1 : St) (m1 : Nat) (v1 : Value) (L2 : Lab), i = .int .i64 j ∧ m1 + j ≤ most ∧ Runs cf R κ1 S1 m1 S' ∧ Good E L2 S1 wr ∧ TaskAt wr L2 t tb v1 j ∧ CodeSim cf R E t (m1 + 1) L2 wr v1 (some κ1) ∧ DidP (TP t) L w L2 wr) (fun _ i _ => most - (intOf i).toNat)
  case atStart => exact ⟨0, κ, S, m, _, L1, rfl, by omega, HR.out, HI.out.1, HI.out.2.1, HI.out.2.2.1, HI.out.2.2.2⟩
  case round =>
    obtain ⟨j, κ1, S1, m1, v1, L2, rfl, hj, hr, hg, htk, hk, hd⟩ := hrel
    have hjm := hr.pos
    have hD : ((j : Int) < (most : Int)) := by omega
    have hcb := hg.ar.cnt2
    have HG := Go.Lib.hid hg
    cases hr with
    | last h1 h2 h3 =>
      have HS := Go.Lib.hid (fun hbd => task_step (n := 0) hg htk hk hbd (by omega) ht)
      rw [h1] at HS
      have HCO := Go.Lib.hid (arena_count hg)
      have HD := Go.Lib.hid hd
      clear h1 hg htk hk hd
      have hw1 : IntKind.i64.wrap ((S1.cnt : Int) + 1) = (S1.cnt : Int) + 1 := IntWalk.i64_in _ (by omega)
      go_wp2_with (first
        | (go_at_call 9; refine (core_cells HG.out).mono ?_; rintro e w' ⟨rfl, rfl⟩)
        | (go_at_call 47; refine HCO.out.mono ?_; rintro e w' ⟨rfl, rfl⟩)
        | fail)
      refine (HS.out h2).mono ?_
      rintro e w2 ⟨v2, L3, rfl, hd2, hg2, ht2, hk2⟩
      have HG2 := Go.Lib.hid hg2
      have HCO2 := Go.Lib.hid (arena_count hg2)
      have HD2 := Go.Lib.hid hd2
      have hle : ((S'.cnt : Int) ≤ (S1.cnt : Int) + 1) := by omega
      have hDle : decide ((S'.cnt : Int) ≤ (S1.cnt : Int) + 1) = true := by simpa using hle
      clear hg2 hd2 ht2 hk2
      go_wp2_with (first
        | (go_at_call 9; refine (core_cells HG2.out).mono ?_; rintro e w' ⟨rfl, rfl⟩)
        | (go_at_call 47; refine HCO2.out.mono ?_; rintro e w' ⟨rfl, rfl⟩)
        | fail)
      go_ret
      exact ⟨L3, by first | rfl | simp [hle], HG2.out, HD.out.trans HD2.out⟩
    | more h1 h2 h3 h4 =>
      rename_i κ2 S2 m2
      have HS := Go.Lib.hid (fun hbd => task_step (n := m2) hg htk hk hbd (by omega) ht)
      rw [h1] at HS
      have HCO := Go.Lib.hid (arena_count hg)
      have HD := Go.Lib.hid hd
      have HR4 := Go.Lib.hid h4
      clear h1 hg htk hk hd h4
      have hw1 : IntKind.i64.wrap ((S1.cnt : Int) + 1) = (S1.cnt : Int) + 1 := IntWalk.i64_in _ (by omega)
      go_wp2_with (first
        | (go_at_call 9; refine (core_cells HG.out).mono ?_; rintro e w' ⟨rfl, rfl⟩)
        | (go_at_call 47; refine HCO.out.mono ?_; rintro e w' ⟨rfl, rfl⟩)
        | fail)
      refine (HS.out h2).mono ?_
      rintro e w2 ⟨v2, L3, rfl, hd2, hg2, ht2, hk2⟩
      have HG2 := Go.Lib.hid hg2
      have HCO2 := Go.Lib.hid (arena_count hg2)
      have HD2 := Go.Lib.hid hd2
      have HT2 := Go.Lib.hid ht2
      have HK2 := Go.Lib.hid hk2
      have hle : ((S2.cnt : Int) ≤ (S1.cnt : Int) + 1) := by omega
      have hDle : decide ((S1.cnt : Int) + 1 < (S2.cnt : Int)) = false := by simp; omega
      clear hg2 hd2 ht2 hk2
      go_wp2_with (first
        | (go_at_call 9; refine (core_cells HG2.out).mono ?_; rintro e w' ⟨rfl, rfl⟩)
        | (go_at_call 47; refine HCO2.out.mono ?_; rintro e w' ⟨rfl, rfl⟩)
        | fail)
      refine ⟨⟨j + 1, κ2, S2, m2, v2, L3, by go_num, by omega, HR4.out, HG2.out, HT2.out, HK2.out, HD.out.trans HD2.out⟩, by simp [intOf]; omega⟩
end
end Go.Proofs.YtlbjjooiiikmjaaGreat

