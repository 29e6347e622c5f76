/- What a row's proof opens: a configuration that came in; facts on the program. -/
import Derived.Test.YtlbjjooiiikmjaaS
import Derived.ProofKit
import Derived.OpenShut
namespace Go.Proofs.Ytlbjjooiiikmjaa
open Go.ChangeShapes Go.WideShapes Go.ChangeAt Go.RowKit
set_option maxRecDepth 100000

theorem prog_own : ownKnob Try.prog.godebug = none := by kernel_rfl
theorem prog_laidOut : laidOutB Try.prog = true := by kernel_rfl

/-- A configuration that came in is thirteen numbers. -/
theorem config_open {W : World} {r : Reach} {base : Nat} {v : Value} (h : Value.okWide Try.prog W r base 23 v) :
    ∃ x : Nat → Int, v = .agg #[.int .i64 (x 0), .int .i64 (x 1), .int .i64 (x 2), .int .i64 (x 3), .int .i64 (x 4), .int .i64 (x 5), .int .i64 (x 6), .int .i64 (x 7), .int .i64 (x 8), .int .i64 (x 9), .int .i64 (x 10), .int .i64 (x 11), .int .i64 (x 12)] := by
  have ht : Try.prog.cellTypes Try.prog.depth 23 = some (List.replicate 13 3) := by kernel_rfl
  have hn : Try.prog.cellsOf 23 = 13 := by kernel_rfl
  simp only [Value.okWide, Try.underlying23] at h
  obtain ⟨cs, rfl, hsz, ts, hts, _, hc⟩ := h
  rw [hn] at hsz
  obtain rfl : ts = List.replicate 13 3 := by rw [ht] at hts; exact (Option.some.inj hts).symm
  refine ⟨fun i => intOf (cs.getD i .nilFunc), ?_⟩
  have key : ∀ i, (hi : i < 13) → cs.getD i .nilFunc = .int .i64 (intOf (cs.getD i .nilFunc)) := by
    intro i hi
    have hg : cs[i]? = some (cs.getD i .nilFunc) := by
      rw [Array.getD_eq_getD_getElem?]
      simp [hsz, hi]
    obtain ⟨u, hu, hok⟩ := hc i _ hg
    have hu' : u = 3 := by
      rw [List.getElem?_replicate] at hu
      split at hu
      · exact (Option.some.inj hu).symm
      · cases hu
    subst hu'
    generalize cs.getD i .nilFunc = y at hok ⊢
    unfold Cell.okWide at hok
    simp only [Try.underlying3] at hok
    unfold Cell.ok at hok
    simp only [Try.underlying3] at hok
    cases y <;> simp_all [intOf]
  have e : cs = Array.ofFn (n := 13) fun i => cs.getD i.val .nilFunc := by
    apply Array.ext
    · simp [hsz]
    · intro i h1 h2
      simp [Array.getD, h1]
  have e2 : cs = Array.ofFn (n := 13) fun i => .int .i64 (intOf (cs.getD i.val .nilFunc)) := by
    conv => lhs; rw [e]
    congr 1
    funext i
    exact key i.val i.isLt
  conv => lhs; rw [e2]
  rfl
end Go.Proofs.Ytlbjjooiiikmjaa

