/- The history: what is right is noted behind all else. -/
import Derived.Test.YtlbjjooiiikmjaaE
import Derived.Test.YtlbjjooiiikmjaaG
import Derived.Deep.RegionLaw
import Derived.Deep.AppendLies
namespace Go.Proofs.Ytlbjjooiiikmjaa
open Go.RowKit
set_option maxRecDepth 100000
set_option linter.unusedVariables false

theorem own_lt {w : World} {base : Nat} {e : TypeId} {size : Nat} {v : Value} {n : Nat} {xs : List Value} (h : w.ownsRow base e size v n xs) {g : Nat} (hg : v.ownBlock = some g) : g < w.heap.size := by
  rcases h.2 with ⟨rfl, _⟩ | ⟨g', cap, cur, rfl, _, hb, _⟩
  · cases hg
  · have : g' = g := by simpa [Value.ownBlock] using hg
    subst this
    exact (Array.getElem?_eq_some_iff.1 hb).1
theorem own_kept {w w' : World} {base : Nat} {e : TypeId} {size : Nat} {v : Value} {n : Nat} {xs : List Value} (h : w.ownsRow base e size v n xs) (hb : ∀ g, v.ownBlock = some g → w'.heap[g]? = w.heap[g]?) : w'.ownsRow base e size v n xs := by
  refine ⟨h.1, ?_⟩
  rcases h.2 with h0 | ⟨g', cap, cur, rfl, h1, h2, h3⟩
  · exact .inl h0
  · exact .inr ⟨g', cap, cur, rfl, h1, (hb g' rfl).trans h2, h3⟩
/-- An event has been noted. -/
structure Noted (E : G) (L : Lab) (S : St) (w : World) (e : Ev) (L' : Lab) (w' : World) : Prop where
  good : Good E L' { S with log := S.log ++ [e] } w'
  shr : Shr L w L' w'
  blk : ∀ b, b < w.heap.size → L b ≠ 1 → L b ≠ 4 → w'.heap[b]? = w.heap[b]?

theorem noted {E : G} {L : Lab} {S : St} {w W w1 : World} {lv : Value} {ev : Ev} (hg : Good E L S w) (hb : Below w.heap.size w W)
    (hlv : w.cell? ⟨E.k, 2, none⟩ = some lv) (hl : ∀ g, lv.ownBlock = some g → L g = 4) (g cap : Nat)
    (hown : w1.ownsRow 0 43 12 (.slice (some ⟨g, 0, none⟩) (S.log.length + 1) cap) (S.log.length + 1) (S.log.flatMap Ev.cells ++ ev.cells))
    (hgrow : W.grownBy w1 lv.ownBlock) (hat : lv.ownBlock = some g ∨ g = W.heap.size) (hlt : g < w1.heap.size) :
    Noted E L S w ev (fun b => if b = g then 4 else L b) (w1.setCell ⟨E.k, 2, none⟩ (.slice (some ⟨g, 0, none⟩) (S.log.length + 1) cap)) := by
  have lk := cell_lt hlv
  dsimp only at lk
  have hs := hb.size
  have hgs := hgrow.size
  have hrow : ∀ b, L b ≠ 4 → some b ≠ lv.ownBlock := fun b h e => h (hl b e.symm)
  have hgl : ∀ b, b < w.heap.size → L b ≠ 4 → b ≠ g := by
    intro b hb' h4 e
    subst e
    rcases hat with h | h
    · exact h4 (hl _ h)
    · omega
  have hlab : ∀ b, b < w.heap.size → (if b = g then 4 else L b) = L b := by
    intro b hb'
    by_cases h4 : L b = 4
    · rw [h4]; simp
    · rw [if_neg (hgl b hb' h4)]
  have hheap1 : ∀ b, b < w.heap.size → L b ≠ 4 → w1.heap[b]? = w.heap[b]? := fun b hb' h4 =>
    (hgrow.block b (by omega) (hrow b h4)).trans (hb.block b hb')
  have hheap : ∀ b, b < w.heap.size → L b ≠ 1 → L b ≠ 4 → (w1.setCell ⟨E.k, 2, none⟩ (.slice (some ⟨g, 0, none⟩) (S.log.length + 1) cap)).heap[b]? = w.heap[b]? := fun b hb' h1 h4 =>
    (Below.heap_setCell _ _ _ _ (by intro e; subst e; exact h1 hg.lk)).trans (hheap1 b hb' h4)
  have hcell : ∀ o v, o ≠ 2 → w.cell? ⟨E.k, o, none⟩ = some v → (w1.setCell ⟨E.k, 2, none⟩ (.slice (some ⟨g, 0, none⟩) (S.log.length + 1) cap)).cell? ⟨E.k, o, none⟩ = some v := fun o v ho h =>
    (World.cell?_setCell_other _ _ _ _ (by intro x; cases x; exact ho rfl)).trans ((World.cell?_of_block (a := ⟨E.k, o, none⟩) (hheap1 E.k lk (by rw [hg.lk]; omega))).trans h)
  have lp := cell_lt hg.pl.c0
  have la := cell_lt hg.ar.a0
  have lc : E.c < w.heap.size := by
    rcases Nat.lt_or_ge E.c w.heap.size with h | h
    · exact h
    · have := hg.new E.c h; have := hg.lc; omega
  dsimp only at lp la
  have hL1 := hg.lk
  have hLp := hg.lp
  have hLa := hg.la
  have hLc := hg.lc
  refine ⟨⟨hg.ok, hcell 0 _ (by omega) hg.k0, hcell 1 _ (by omega) hg.k1, hg.pl.mono (hheap _ lp (by omega) (by omega)), (have h := hg.ar.below (hheap _ la (by omega) (by omega)) (hheap _ lc (by omega) (by omega)); ⟨h.a0, h.a1, h.af, h.c0, h.cf, h.ne, h.n2, h.m64, h.cnt2⟩), ?_, ?_, ?_, ?_, ?_, ?_, ?_⟩, ⟨?_, ?_, ?_, ?_, ?_, hlab⟩, hheap⟩
  · refine ⟨?_, .slice (some ⟨g, 0, none⟩) (S.log.length + 1) cap, ?_, ?_, ?_⟩
    · rw [World.frozen?_setCell]
      exact (World.frozen?_of_block (a := ⟨E.k, 2, none⟩) (hheap1 E.k lk (by omega))).trans hg.lg.kf
    · exact World.cell?_setCell_same _ _ _ ((World.cell?_of_block (a := ⟨E.k, 2, none⟩) (hheap1 E.k lk (by omega))).trans hlv)
    · have : (S.log ++ [ev]).flatMap Ev.cells = S.log.flatMap Ev.cells ++ ev.cells := by simp
      show World.ownsRow _ 0 _ 12 _ (S.log ++ [ev]).length ((S.log ++ [ev]).flatMap Ev.cells)
      rw [this, List.length_append]
      refine own_kept hown (fun g' hg' => ?_)
      have : g' = g := by simpa [Value.ownBlock] using hg'.symm
      subst this
      refine Below.heap_setCell _ _ _ _ (fun e => ?_)
      dsimp only at e
      exact hgl E.k lk (by omega) e.symm
    · intro g' hg'
      have : g' = g := by simpa [Value.ownBlock] using hg'.symm
      subst this
      simp
  · intro b v hv
    obtain ⟨h1, h2, h3⟩ := hg.rg b v hv
    have lb := cell_lt h1
    dsimp only at lb
    exact ⟨(World.cell?_of_block (a := ⟨b, 0, none⟩) (hheap b lb (by omega) (by omega))).trans h1, (World.frozen?_of_block (a := ⟨b, 0, none⟩) (hheap b lb (by omega) (by omega))).trans h2, (hlab b lb).trans h3⟩
  · exact (hlab _ lk).trans hL1
  · exact (hlab _ lp).trans hLp
  · exact (hlab _ la).trans hLa
  · exact (hlab _ lc).trans hLc
  · intro b hb'
    rw [World.size_setCell] at hb'
    show (if b = g then 4 else L b) = 0
    rw [if_neg (by omega)]
    exact hg.new b (by omega)
  · exact hgrow.os.trans hb.os
  · exact hgrow.tape.trans hb.tape
  · exact hgrow.output.trans hb.output
  · rw [World.size_setCell]; omega
  · intro b hb' h
    exact hheap b hb' (by omega) (by omega)

set_option maxHeartbeats 4000000 in
theorem log_add {E : G} {L : Lab} {S : St} {w : World} (hg : Good E L S w) (hn : S.log.length ≤ 1000000) (kind worker op hn' hgn nn ng time arg user err : Int) (yes : Bool)
    (hR : ∀ w, Calls Try.prog 92 #[.agg #[.int .i64 kind, .int .i64 worker, .int .i64 op, .int .i64 hn', .int .i64 hgn, .int .i64 nn, .int .i64 ng, .int .i64 time, .int .i64 arg, .int .i64 user, .bool yes, .int .i64 err]] w fun e w' => e = .returned (.bool true) ∧ Below w.heap.size w w') :
    Calls Try.prog 67 #[.pointer (some ⟨E.k, 2, none⟩), .agg #[.int .i64 kind, .int .i64 worker, .int .i64 op, .int .i64 hn', .int .i64 hgn, .int .i64 nn, .int .i64 ng, .int .i64 time, .int .i64 arg, .int .i64 user, .bool yes, .int .i64 err]] w fun e w' => ∃ L', e = .returned (.int .i64 0) ∧
      Noted E L S w ⟨kind, worker, op, hn', hgn, nn, ng, time, arg, user, yes, err⟩ L' w' := by
  have hinfo : (Try.prog.info? 43).map (fun i => (i.zero, i.size, i.bytes)) = some (some (.agg #[.int .i64 0, .int .i64 0, .int .i64 0, .int .i64 0, .int .i64 0, .int .i64 0, .int .i64 0, .int .i64 0, .int .i64 0, .int .i64 0, .bool false, .int .i64 0]), 12, 96) := by kernel_rfl
  have hund : Try.prog.underlying 35 = some (.slice 43) := by kernel_rfl
  obtain ⟨i0, hi0, hz0, hz1, hz2⟩ := info_parts hinfo
  obtain ⟨lv, hlv, hown, hl⟩ := hg.lg.ex
  have hkf := hg.lg.kf
  have lk := cell_lt hlv
  dsimp only at lk
  have hne : lv.ownBlock ≠ some E.k := fun h => by have := hl _ h; rw [hg.lk] at this; omega
  have HR := Go.Lib.hid hR
  have HG := Go.Lib.hid hg
  have HL := Go.Lib.hid hl
  clear hR hg hl
  go_enter Try.func67, Try.ntmps67
  go_wp2_with fail
  refine (HR.out _).mono ?_
  rintro e w1 ⟨rfl, hb⟩
  have e0 : w1.cell? ⟨w.heap.size, 0, none⟩ = some (.int .i64 kind) := below_cell hb (by go_simp)
  have e1 : w1.cell? ⟨w.heap.size, 1, none⟩ = some (.int .i64 worker) := below_cell hb (by go_simp)
  have e2 : w1.cell? ⟨w.heap.size, 2, none⟩ = some (.int .i64 op) := below_cell hb (by go_simp)
  have e3 : w1.cell? ⟨w.heap.size, 3, none⟩ = some (.int .i64 hn') := below_cell hb (by go_simp)
  have e4 : w1.cell? ⟨w.heap.size, 4, none⟩ = some (.int .i64 hgn) := below_cell hb (by go_simp)
  have e5 : w1.cell? ⟨w.heap.size, 5, none⟩ = some (.int .i64 nn) := below_cell hb (by go_simp)
  have e6 : w1.cell? ⟨w.heap.size, 6, none⟩ = some (.int .i64 ng) := below_cell hb (by go_simp)
  have e7 : w1.cell? ⟨w.heap.size, 7, none⟩ = some (.int .i64 time) := below_cell hb (by go_simp)
  have e8 : w1.cell? ⟨w.heap.size, 8, none⟩ = some (.int .i64 arg) := below_cell hb (by go_simp)
  have e9 : w1.cell? ⟨w.heap.size, 9, none⟩ = some (.int .i64 user) := below_cell hb (by go_simp)
  have e10 : w1.cell? ⟨w.heap.size, 10, none⟩ = some (.bool yes) := below_cell hb (by go_simp)
  have e11 : w1.cell? ⟨w.heap.size, 11, none⟩ = some (.int .i64 err) := below_cell hb (by go_simp)
  have hB : Below w.heap.size w w1 := ((Below.refl _ _).alloc (Nat.le_refl _) _).trans (hb.mono (by simp))
  have lb := cell_lt e0
  clear hb
  have k2 := below_cell hB hlv
  have kf := (hB.frozen lk).trans hkf
  have lk1 := cell_lt k2
  dsimp only at lk1 lb
  have HOWN := Go.Lib.hid (own_kept hown (fun g hg => hB.block g (own_lt hown hg)))
  have HLV := Go.Lib.hid hlv
  clear hown hlv hkf
  go_wp2
  go_region_law
    ((refine step_append_lies _ (by rfl) _ _ _ (by rfl) 0 43 i0 _ 12 96 hund hi0 hz0 hz1 hz2 rfl (by omega) lv _ _ (by rfl) (by first | exact (HOWN.out.alloc _) | exact (HOWN.out.alloc _).drew | exact (HOWN.out.drew.alloc _))
        ⟨_, 0, none⟩ 1 1 [.int .i64 kind, .int .i64 worker, .int .i64 op, .int .i64 hn', .int .i64 hgn, .int .i64 nn, .int .i64 ng, .int .i64 time, .int .i64 arg, .int .i64 user, .bool yes, .int .i64 err] (by rfl) (by rfl) (World.news_of_block (cs := #[.int .i64 kind, .int .i64 worker, .int .i64 op, .int .i64 hn', .int .i64 hgn, .int .i64 nn, .int .i64 ng, .int .i64 time, .int .i64 arg, .int .i64 user, .bool yes, .int .i64 err]) (t := 43) (fr := (0, 0)) (heap_alloc_new _ _)) (by simp [Value.oneCell'])
        (by omega) (by unfold maxLen; omega) (by omega) (Nat.zero_le _) _ rfl ?_; intro gg cap w2 hown1 hgrow hat hlt; have k3 : w2.cell? ⟨E.k, 2, none⟩ = some lv := (hgrow.cell_far ⟨E.k, 2, none⟩ (by simp; omega) (Ne.symm hne)).trans (by go_simp); have k4 : w2.frozen? ⟨E.k, 2, none⟩ = false := (hgrow.frozen_far ⟨E.k, 2, none⟩ (by simp; omega) (Ne.symm hne)).trans (by go_simp)))
  all_goals
    go_wp2
    go_ret
    refine ⟨_, by simp, noted (ev := ⟨kind, worker, op, hn', hgn, nn, ng, time, arg, user, yes, err⟩) HG.out ?_ HLV.out HL.out gg cap hown1 hgrow hat hlt⟩
    first
      | exact hB.alloc hB.size _
      | exact (hB.alloc hB.size _).drew
      | exact hB.drew.alloc hB.size _
end Go.Proofs.Ytlbjjooiiikmjaa

