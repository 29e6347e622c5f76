/- The law CoreNew. -/
import Derived.Test.YtlbjjooiiikmjaaTj
import Derived.Deep.RegionHeld3
namespace Go.Proofs.Ytlbjjooiiikmjaa
open Go.RowKit
set_option maxRecDepth 100000
set_option linter.unusedVariables false

theorem packed_is (ws : List Nat) (ns : List Int) (h : (List.range ws.length).all (fun j => fits (ns.getD j 0) (ws.getD j 0)) = true) : packed ws ns = (packAcc ws ns ws.length, 0) := if_pos h
theorem packAcc_next (ws : List Nat) (ns : List Int) (k : Nat) : packAcc ws ns (k + 1) = packAcc ws ns k + (ns.getD k 0).toNat * 2 ^ (64 - wsum ws (k + 1)) := rfl
theorem packAcc_3 (ws : List Nat) (ns : List Int) : packAcc ws ns 3 = (ns.getD 0 0).toNat * 2 ^ (64 - wsum ws 1) + (ns.getD 1 0).toNat * 2 ^ (64 - wsum ws 2) + (ns.getD 2 0).toNat * 2 ^ (64 - wsum ws 3) := by
  rw [packAcc_next, packAcc_next, packAcc_next]
  show 0 + _ + _ + _ = _
  rw [Nat.zero_add]
theorem packed_3 {ws : List Nat} {ns : List Int} (hw : ws.length = 3) {g v n a b : Nat} (q1 : (ns.getD 0 0).toNat = g) (q2 : (ns.getD 1 0).toNat = v) (q3 : (ns.getD 2 0).toNat = n)
    (f0 : fits (ns.getD 0 0) (ws.getD 0 0) = true) (f1 : fits (ns.getD 1 0) (ws.getD 1 0) = true) (f2 : fits (ns.getD 2 0) (ws.getD 2 0) = true)
    (w1 : 64 - wsum ws 1 = a) (w2 : 64 - wsum ws 2 = b) (w3 : 64 - wsum ws 3 = 0) : (packed ws ns).1 = g * 2 ^ a + v * 2 ^ b + n := by
  rw [packed_is, hw, packAcc_3, w1, w2, w3, q1, q2, q3]
  · show _ + n * 2 ^ 0 = _
    rw [Nat.pow_zero, Nat.mul_one]
  · rw [hw, List.all_eq_true]
    intro j hj
    rw [List.mem_range] at hj
    match j, hj with
    | 0, _ => exact f0
    | 1, _ => exact f1
    | 2, _ => exact f2
theorem fits_32 {g : Nat} (h : g ≤ 4294967295) : fits (g : Int) 32 = true := by
  unfold fits; rw [decide_eq_true_eq]; omega
theorem fits_zero (w : Nat) : fits 0 w = true := by
  unfold fits; rw [decide_eq_true_eq]
  exact ⟨Int.le_refl _, by have := Nat.two_pow_pos w; have h2 : ((2 ^ w : Nat) : Int) = 2 ^ w := by simp
                           omega⟩
/-- The parts of a state that was never armed. -/
theorem fresh_parts {c : Cf} (h : c.first ≤ 4294967295) : part (freshW c) 32 32 = c.first ∧ part (freshW c) 2 30 = 0 ∧ part (freshW c) 0 2 = 0 := by
  have e : freshW c = c.first * 2 ^ 32 + 0 * 2 ^ 2 + 0 := by
    unfold freshW
    rw [← stateWord_eq]
    exact packed_3 rfl rfl rfl rfl (fits_32 h) (fits_zero _) (fits_zero _) rfl rfl rfl
  rw [e]
  unfold part
  refine ⟨?_, ?_, ?_⟩ <;> omega

/-- What the walk is not told. -/
structure FFacts (E : G) (x : Nat → Int) : Prop where
  hcf : E.cf = cfOf x
  hok : okI x
namespace FFacts
variable {E : G} {x : Nat → Int}
theorem w0 (F : FFacts E x) : ((0 : Nat) : Int) ≤ x 0 := by have h : (1 : Int) ≤ x 0 := (F.hok 0 (by decide)).1; omega
theorem n0 (F : FFacts E x) : ((0 : Nat) : Int) ≤ x 3 := by have h : (1 : Int) ≤ x 3 := (F.hok 3 (by decide)).1; omega
theorem b0 (F : FFacts E x) : x 0 ≤ 64 := (F.hok 0 (by decide)).2
theorem b3 (F : FFacts E x) : x 3 ≤ 4096 := (F.hok 3 (by decide)).2
theorem wk (F : FFacts E x) {j : Nat} (h : (j : Int) < x 0) : j < E.cf.workers := by rw [F.hcf]; show j < (x 0).toNat; omega
theorem nk (F : FFacts E x) {j : Nat} (h : (j : Int) < x 3) : j < E.cf.nodes := by rw [F.hcf]; show j < (x 3).toNat; omega
theorem inbox (F : FFacts E x) (j : Nat) (h : (j : Int) < x 0) : ∃ k : Nat, E.cf.inbox j = (k : Int) ∧ 3 ≤ k ∧ k < E.cf.nodesAt := inbox_at (F.wk h)
theorem nn (F : FFacts E x) : E.cf.nodesAt ≤ (S0 E.cf).n := by show E.cf.nodesAt ≤ E.cf.size; unfold Cf.size Cf.connsAt Cf.ticketsAt; omega
theorem lt (F : FFacts E x) {k : Nat} (h : k < E.cf.nodesAt) : k < (S0 E.cf).n := Nat.lt_of_lt_of_le h F.nn
theorem zero (F : FFacts E x) {k : Nat} (h3 : 3 ≤ k) (h : k < E.cf.nodesAt) : (S0 E.cf).m k = 0 := freshM_shard k h3 h
theorem first6 (F : FFacts E x) : ((E.cf.first : Nat) : Int) = x 6 := by
  rw [F.hcf]
  have h : (0 : Int) ≤ x 6 := (F.hok 6 (by decide)).1
  show (((x 6).toNat : Nat) : Int) = x 6
  omega
theorem noState (F : FFacts E x) (n : Int) (h : ¬ (0 ≤ n ∧ n < x 3)) : E.cf.state n = -1 := by
  have h3 : ((E.cf.nodes : Nat) : Int) = x 3 := by
    rw [F.hcf]
    have h : (1 : Int) ≤ x 3 := (F.hok 3 (by decide)).1
    show (((x 3).toNat : Nat) : Int) = x 3
    omega
  unfold Cf.state Cf.node
  rw [among_no (by rw [h3]; exact h)]
  rfl
theorem state (F : FFacts E x) {L : Lab} {w : World} (hg : Good E L (S0 E.cf) w) {j : Nat} (h : (j : Int) < x 3) :
    Calls Try.prog 33 #[.pointer (some ⟨E.k, 0, none⟩), .int .i64 j] w fun e w' => e = .returned (.agg #[.int .i64 (x 6), .int .i64 0, .int .i64 0]) ∧ Below w.heap.size w w' := by
  have hj := F.nk h
  have hc := core_state hg (j : Int) (E.cf.nodesAt + 4 * j) (state_at E.cf j hj) (by show _ < E.cf.size; unfold Cf.size Cf.connsAt Cf.ticketsAt; omega)
  have hm : (S0 E.cf).m (E.cf.nodesAt + 4 * j) = freshW E.cf := freshM_state j hj
  obtain ⟨p1, p2, p3⟩ := fresh_parts hg.ok.f2
  rw [hm, p1, p2, p3, F.first6] at hc
  exact hc
end FFacts
set_option maxHeartbeats 8000000 in
theorem law15_CoreNew (x : Nat → Int) (w : World) :
    Calls Try.prog 4 #[.agg #[.int .i64 (x 0), .int .i64 (x 1), .int .i64 (x 2), .int .i64 (x 3), .int .i64 (x 4), .int .i64 (x 5), .int .i64 (x 6), .int .i64 (x 7), .int .i64 (x 8), .int .i64 (x 9), .int .i64 (x 10), .int .i64 (x 11), .int .i64 (x 12)]] w fun e w' => e = .returned (.bool true) ∧ Below w.heap.size w w' := by
  have hb : Below w.heap.size w (w.alloc (.cells #[.int .i64 (x 0), .int .i64 (x 1), .int .i64 (x 2), .int .i64 (x 3), .int .i64 (x 4), .int .i64 (x 5), .int .i64 (x 6), .int .i64 (x 7), .int .i64 (x 8), .int .i64 (x 9), .int .i64 (x 10), .int .i64 (x 11), .int .i64 (x 12)] 23)) := (Below.refl _ _).alloc (Nat.le_refl _) _
  have e0 : (w.alloc (.cells #[.int .i64 (x 0), .int .i64 (x 1), .int .i64 (x 2), .int .i64 (x 3), .int .i64 (x 4), .int .i64 (x 5), .int .i64 (x 6), .int .i64 (x 7), .int .i64 (x 8), .int .i64 (x 9), .int .i64 (x 10), .int .i64 (x 11), .int .i64 (x 12)] 23)).cell? ⟨w.heap.size, 0, none⟩ = some (.int .i64 (x 0)) := by go_simp
  have e1 : (w.alloc (.cells #[.int .i64 (x 0), .int .i64 (x 1), .int .i64 (x 2), .int .i64 (x 3), .int .i64 (x 4), .int .i64 (x 5), .int .i64 (x 6), .int .i64 (x 7), .int .i64 (x 8), .int .i64 (x 9), .int .i64 (x 10), .int .i64 (x 11), .int .i64 (x 12)] 23)).cell? ⟨w.heap.size, 1, none⟩ = some (.int .i64 (x 1)) := by go_simp
  have e2 : (w.alloc (.cells #[.int .i64 (x 0), .int .i64 (x 1), .int .i64 (x 2), .int .i64 (x 3), .int .i64 (x 4), .int .i64 (x 5), .int .i64 (x 6), .int .i64 (x 7), .int .i64 (x 8), .int .i64 (x 9), .int .i64 (x 10), .int .i64 (x 11), .int .i64 (x 12)] 23)).cell? ⟨w.heap.size, 2, none⟩ = some (.int .i64 (x 2)) := by go_simp
  have e3 : (w.alloc (.cells #[.int .i64 (x 0), .int .i64 (x 1), .int .i64 (x 2), .int .i64 (x 3), .int .i64 (x 4), .int .i64 (x 5), .int .i64 (x 6), .int .i64 (x 7), .int .i64 (x 8), .int .i64 (x 9), .int .i64 (x 10), .int .i64 (x 11), .int .i64 (x 12)] 23)).cell? ⟨w.heap.size, 3, none⟩ = some (.int .i64 (x 3)) := by go_simp
  have e4 : (w.alloc (.cells #[.int .i64 (x 0), .int .i64 (x 1), .int .i64 (x 2), .int .i64 (x 3), .int .i64 (x 4), .int .i64 (x 5), .int .i64 (x 6), .int .i64 (x 7), .int .i64 (x 8), .int .i64 (x 9), .int .i64 (x 10), .int .i64 (x 11), .int .i64 (x 12)] 23)).cell? ⟨w.heap.size, 4, none⟩ = some (.int .i64 (x 4)) := by go_simp
  have e5 : (w.alloc (.cells #[.int .i64 (x 0), .int .i64 (x 1), .int .i64 (x 2), .int .i64 (x 3), .int .i64 (x 4), .int .i64 (x 5), .int .i64 (x 6), .int .i64 (x 7), .int .i64 (x 8), .int .i64 (x 9), .int .i64 (x 10), .int .i64 (x 11), .int .i64 (x 12)] 23)).cell? ⟨w.heap.size, 5, none⟩ = some (.int .i64 (x 5)) := by go_simp
  have e6 : (w.alloc (.cells #[.int .i64 (x 0), .int .i64 (x 1), .int .i64 (x 2), .int .i64 (x 3), .int .i64 (x 4), .int .i64 (x 5), .int .i64 (x 6), .int .i64 (x 7), .int .i64 (x 8), .int .i64 (x 9), .int .i64 (x 10), .int .i64 (x 11), .int .i64 (x 12)] 23)).cell? ⟨w.heap.size, 6, none⟩ = some (.int .i64 (x 6)) := by go_simp
  have e7 : (w.alloc (.cells #[.int .i64 (x 0), .int .i64 (x 1), .int .i64 (x 2), .int .i64 (x 3), .int .i64 (x 4), .int .i64 (x 5), .int .i64 (x 6), .int .i64 (x 7), .int .i64 (x 8), .int .i64 (x 9), .int .i64 (x 10), .int .i64 (x 11), .int .i64 (x 12)] 23)).cell? ⟨w.heap.size, 7, none⟩ = some (.int .i64 (x 7)) := by go_simp
  have e8 : (w.alloc (.cells #[.int .i64 (x 0), .int .i64 (x 1), .int .i64 (x 2), .int .i64 (x 3), .int .i64 (x 4), .int .i64 (x 5), .int .i64 (x 6), .int .i64 (x 7), .int .i64 (x 8), .int .i64 (x 9), .int .i64 (x 10), .int .i64 (x 11), .int .i64 (x 12)] 23)).cell? ⟨w.heap.size, 8, none⟩ = some (.int .i64 (x 8)) := by go_simp
  have e9 : (w.alloc (.cells #[.int .i64 (x 0), .int .i64 (x 1), .int .i64 (x 2), .int .i64 (x 3), .int .i64 (x 4), .int .i64 (x 5), .int .i64 (x 6), .int .i64 (x 7), .int .i64 (x 8), .int .i64 (x 9), .int .i64 (x 10), .int .i64 (x 11), .int .i64 (x 12)] 23)).cell? ⟨w.heap.size, 9, none⟩ = some (.int .i64 (x 9)) := by go_simp
  have e10 : (w.alloc (.cells #[.int .i64 (x 0), .int .i64 (x 1), .int .i64 (x 2), .int .i64 (x 3), .int .i64 (x 4), .int .i64 (x 5), .int .i64 (x 6), .int .i64 (x 7), .int .i64 (x 8), .int .i64 (x 9), .int .i64 (x 10), .int .i64 (x 11), .int .i64 (x 12)] 23)).cell? ⟨w.heap.size, 10, none⟩ = some (.int .i64 (x 10)) := by go_simp
  have e11 : (w.alloc (.cells #[.int .i64 (x 0), .int .i64 (x 1), .int .i64 (x 2), .int .i64 (x 3), .int .i64 (x 4), .int .i64 (x 5), .int .i64 (x 6), .int .i64 (x 7), .int .i64 (x 8), .int .i64 (x 9), .int .i64 (x 10), .int .i64 (x 11), .int .i64 (x 12)] 23)).cell? ⟨w.heap.size, 11, none⟩ = some (.int .i64 (x 11)) := by go_simp
  have e12 : (w.alloc (.cells #[.int .i64 (x 0), .int .i64 (x 1), .int .i64 (x 2), .int .i64 (x 3), .int .i64 (x 4), .int .i64 (x 5), .int .i64 (x 6), .int .i64 (x 7), .int .i64 (x 8), .int .i64 (x 9), .int .i64 (x 10), .int .i64 (x 11), .int .i64 (x 12)] 23)).cell? ⟨w.heap.size, 12, none⟩ = some (.int .i64 (x 12)) := by go_simp
  have HR := Go.Lib.hid (ref_Right x)
  have HS := Go.Lib.hid (law15_Small x)
  have HO := Go.Lib.hid (law03_Of x)
  go_enter Try.func4, Try.ntmps4
  go_wp2_with fail
  refine (law15_speaks _).mono ?_
  rintro e w1 ⟨rfl, hb1⟩
  replace e0 := below_cell hb1 e0
  replace e1 := below_cell hb1 e1
  replace e2 := below_cell hb1 e2
  replace e3 := below_cell hb1 e3
  replace e4 := below_cell hb1 e4
  replace e5 := below_cell hb1 e5
  replace e6 := below_cell hb1 e6
  replace e7 := below_cell hb1 e7
  replace e8 := below_cell hb1 e8
  replace e9 := below_cell hb1 e9
  replace e10 := below_cell hb1 e10
  replace e11 := below_cell hb1 e11
  replace e12 := below_cell hb1 e12
  replace hb := hb.trans (hb1.mono hb.size)
  clear hb1
  go_wp2_with fail
  refine (HR.out _).mono ?_
  rintro e w2 ⟨rfl, hb1⟩
  replace e0 := below_cell hb1 e0
  replace e1 := below_cell hb1 e1
  replace e2 := below_cell hb1 e2
  replace e3 := below_cell hb1 e3
  replace e4 := below_cell hb1 e4
  replace e5 := below_cell hb1 e5
  replace e6 := below_cell hb1 e6
  replace e7 := below_cell hb1 e7
  replace e8 := below_cell hb1 e8
  replace e9 := below_cell hb1 e9
  replace e10 := below_cell hb1 e10
  replace e11 := below_cell hb1 e11
  replace e12 := below_cell hb1 e12
  replace hb := hb.trans (hb1.mono hb.size)
  clear hb1
  by_cases hok : okI x
  · rw [decide_eq_true hok] at HR ⊢
    go_wp2_with fail
    refine (HS.out _).mono ?_
    rintro e w2b ⟨rfl, hb1⟩
    replace e0 := below_cell hb1 e0
    replace e1 := below_cell hb1 e1
    replace e2 := below_cell hb1 e2
    replace e3 := below_cell hb1 e3
    replace e4 := below_cell hb1 e4
    replace e5 := below_cell hb1 e5
    replace e6 := below_cell hb1 e6
    replace e7 := below_cell hb1 e7
    replace e8 := below_cell hb1 e8
    replace e9 := below_cell hb1 e9
    replace e10 := below_cell hb1 e10
    replace e11 := below_cell hb1 e11
    replace e12 := below_cell hb1 e12
    replace hb := hb.trans (hb1.mono hb.size)
    clear hb1
    by_cases hsm : smallI x
    · rw [decide_eq_true hsm]
      go_wp2_with fail
      refine (HO.out _).mono ?_
      rintro e w2c ⟨rfl, hb1⟩
      replace e0 := below_cell hb1 e0
      replace e1 := below_cell hb1 e1
      replace e2 := below_cell hb1 e2
      replace e3 := below_cell hb1 e3
      replace e4 := below_cell hb1 e4
      replace e5 := below_cell hb1 e5
      replace e6 := below_cell hb1 e6
      replace e7 := below_cell hb1 e7
      replace e8 := below_cell hb1 e8
      replace e9 := below_cell hb1 e9
      replace e10 := below_cell hb1 e10
      replace e11 := below_cell hb1 e11
      replace e12 := below_cell hb1 e12
      replace hb := hb.trans (hb1.mono hb.size)
      clear hb1
      have hn := core_new (cfOf x) (cfOf_ok hok)
      rw [cfOf_vals hok] at hn
      have HN := Go.Lib.hid hn
      clear hn
      go_wp2_with fail
      refine (HN.out _).mono ?_
      rintro e w3 ⟨E, L, rfl, hborn⟩
      obtain ⟨hcf, hgood, hbl, hold, hnr, hek⟩ := hborn
      replace e0 := below_cell hbl e0
      replace e1 := below_cell hbl e1
      replace e2 := below_cell hbl e2
      replace e3 := below_cell hbl e3
      replace e4 := below_cell hbl e4
      replace e5 := below_cell hbl e5
      replace e6 := below_cell hbl e6
      replace e7 := below_cell hbl e7
      replace e8 := below_cell hbl e8
      replace e9 := below_cell hbl e9
      replace e10 := below_cell hbl e10
      replace e11 := below_cell hbl e11
      replace e12 := below_cell hbl e12
      have HOLD : Hid (∀ b, b < w.heap.size → L b = 0) := fun b hlt => hold b (Nat.lt_of_lt_of_le hlt hb.size)
      have hb3 := hb.trans (hbl.mono hb.size)
      have HB3 := Go.Lib.hid hb3
      have HOK := Go.Lib.hid hok
      have HCF := Go.Lib.hid hcf
      rw [← hcf] at hgood
      have HG := Go.Lib.hid hgood
      clear hcf hgood hbl hold hnr hek hb hb3 HN HS hok hsm
      go_wp2_with fail
      refine (HR.out _).mono ?_
      rintro e w4 ⟨rfl, hb4⟩
      replace e0 := below_cell hb4 e0
      replace e1 := below_cell hb4 e1
      replace e2 := below_cell hb4 e2
      replace e3 := below_cell hb4 e3
      replace e4 := below_cell hb4 e4
      replace e5 := below_cell hb4 e5
      replace e6 := below_cell hb4 e6
      replace e7 := below_cell hb4 e7
      replace e8 := below_cell hb4 e8
      replace e9 := below_cell hb4 e9
      replace e10 := below_cell hb4 e10
      replace e11 := below_cell hb4 e11
      replace e12 := below_cell hb4 e12
      have HG4 := Go.Lib.hid (HG.out.below hb4)
      have HB4 := Go.Lib.hid (HB3.out.trans (hb4.mono HB3.out.size))
      clear hb4 HG HB3 HR
      have HGW : Hid (∀ p : Regrown, Good E L (S0 E.cf) (Sort.grow (redrawn w4 p.d) p.os)) := fun p => HG4.out.below (below_regrown w4 p.d p.os)
      have HC1 : Hid (∀ p : Regrown, Calls Try.prog 19 #[.pointer (some ⟨E.k, 0, none⟩)] (Sort.grow (redrawn w4 p.d) p.os) fun e w' => e = .returned (.agg #[.int .i64 (x 0), .int .i64 (x 1), .int .i64 (x 2), .int .i64 (x 3), .int .i64 (x 4), .int .i64 (x 5), .int .i64 (x 6), .int .i64 (x 7), .int .i64 (x 8), .int .i64 (x 9), .int .i64 (x 10), .int .i64 (x 11), .int .i64 (x 12)]) ∧ Below (Sort.grow (redrawn w4 p.d) p.os).heap.size (Sort.grow (redrawn w4 p.d) p.os) w') := fun p => by
        have h := core_config (HGW.out p)
        rwa [HCF.out, cfOf_vals HOK.out] at h
      have hz : (S0 E.cf).m 0 = 0 := by rw [HCF.out]; exact freshM_zero (cfOf_ok HOK.out)
      have hsz := (cfOf_ok HOK.out).size_le
      have HC2 : Hid (∀ p : Regrown, Calls Try.prog 13 #[.pointer (some ⟨E.k, 0, none⟩)] (Sort.grow (redrawn w4 p.d) p.os) fun e w' => e = .returned (.int .i64 0) ∧ Below (Sort.grow (redrawn w4 p.d) p.os).heap.size (Sort.grow (redrawn w4 p.d) p.os) w') := fun p => by
        have h := core_clock (HGW.out p) (by show 0 < E.cf.size; rw [HCF.out]; omega) (by rw [hz]; decide)
        rw [hz] at h
        exact h
      have HC3 : Hid (∀ p : Regrown, Calls Try.prog 22 #[.pointer (some ⟨E.a, 0, none⟩)] (Sort.grow (redrawn w4 p.d) p.os) fun e w' => e = .returned (.int .i64 ((cfOf x).size : Nat)) ∧ Below (Sort.grow (redrawn w4 p.d) p.os).heap.size (Sort.grow (redrawn w4 p.d) p.os) w') := fun p => by
        have h := arena_len (HGW.out p)
        rw [show (S0 E.cf).n = (cfOf x).size from by rw [HCF.out]; rfl] at h
        exact h.mono fun _ _ q => ⟨q.1, q.2 ▸ Below.refl _ _⟩
      have HC5 : Hid (∀ p : Regrown, Calls Try.prog 20 #[.pointer (some ⟨E.k, 2, none⟩)] (Sort.grow (redrawn w4 p.d) p.os) fun e w' => e = .returned (.int .i64 0) ∧ Below (Sort.grow (redrawn w4 p.d) p.os).heap.size (Sort.grow (redrawn w4 p.d) p.os) w') := fun p =>
        (log_len (HGW.out p)).mono fun _ _ q => ⟨q.1, q.2 ▸ Below.refl _ _⟩
      have HC6 : Hid (∀ p : Regrown, Calls Try.prog 21 #[.pointer (some ⟨E.a, 0, none⟩)] (Sort.grow (redrawn w4 p.d) p.os) fun e w' => e = .returned (.int .i64 0) ∧ Below (Sort.grow (redrawn w4 p.d) p.os).heap.size (Sort.grow (redrawn w4 p.d) p.os) w') := fun p =>
        (arena_count (HGW.out p)).mono fun _ _ q => ⟨q.1, q.2 ▸ Below.refl _ _⟩
      have HC4 : Hid (∀ p : Regrown, Calls Try.prog 23 #[.agg #[.int .i64 (x 0), .int .i64 (x 1), .int .i64 (x 2), .int .i64 (x 3), .int .i64 (x 4), .int .i64 (x 5), .int .i64 (x 6), .int .i64 (x 7), .int .i64 (x 8), .int .i64 (x 9), .int .i64 (x 10), .int .i64 (x 11), .int .i64 (x 12)]] (Sort.grow (redrawn w4 p.d) p.os) fun e w' => e = .returned (.int .i64 ((cfOf x).size : Nat)) ∧ Below (Sort.grow (redrawn w4 p.d) p.os).heap.size (Sort.grow (redrawn w4 p.d) p.os) w') := fun p => ref_Size x HOK.out _
      have e0' : ∀ d os, (Sort.grow (redrawn w4 d) os).cell? ⟨w.heap.size, 0, none⟩ = some (.int .i64 (x 0)) := fun d os => cell_regrown e0 d os
      have e1' : ∀ d os, (Sort.grow (redrawn w4 d) os).cell? ⟨w.heap.size, 1, none⟩ = some (.int .i64 (x 1)) := fun d os => cell_regrown e1 d os
      have e2' : ∀ d os, (Sort.grow (redrawn w4 d) os).cell? ⟨w.heap.size, 2, none⟩ = some (.int .i64 (x 2)) := fun d os => cell_regrown e2 d os
      have e3' : ∀ d os, (Sort.grow (redrawn w4 d) os).cell? ⟨w.heap.size, 3, none⟩ = some (.int .i64 (x 3)) := fun d os => cell_regrown e3 d os
      have e4' : ∀ d os, (Sort.grow (redrawn w4 d) os).cell? ⟨w.heap.size, 4, none⟩ = some (.int .i64 (x 4)) := fun d os => cell_regrown e4 d os
      have e5' : ∀ d os, (Sort.grow (redrawn w4 d) os).cell? ⟨w.heap.size, 5, none⟩ = some (.int .i64 (x 5)) := fun d os => cell_regrown e5 d os
      have e6' : ∀ d os, (Sort.grow (redrawn w4 d) os).cell? ⟨w.heap.size, 6, none⟩ = some (.int .i64 (x 6)) := fun d os => cell_regrown e6 d os
      have e7' : ∀ d os, (Sort.grow (redrawn w4 d) os).cell? ⟨w.heap.size, 7, none⟩ = some (.int .i64 (x 7)) := fun d os => cell_regrown e7 d os
      have e8' : ∀ d os, (Sort.grow (redrawn w4 d) os).cell? ⟨w.heap.size, 8, none⟩ = some (.int .i64 (x 8)) := fun d os => cell_regrown e8 d os
      have e9' : ∀ d os, (Sort.grow (redrawn w4 d) os).cell? ⟨w.heap.size, 9, none⟩ = some (.int .i64 (x 9)) := fun d os => cell_regrown e9 d os
      have e10' : ∀ d os, (Sort.grow (redrawn w4 d) os).cell? ⟨w.heap.size, 10, none⟩ = some (.int .i64 (x 10)) := fun d os => cell_regrown e10 d os
      have e11' : ∀ d os, (Sort.grow (redrawn w4 d) os).cell? ⟨w.heap.size, 11, none⟩ = some (.int .i64 (x 11)) := fun d os => cell_regrown e11 d os
      have e12' : ∀ d os, (Sort.grow (redrawn w4 d) os).cell? ⟨w.heap.size, 12, none⟩ = some (.int .i64 (x 12)) := fun d os => cell_regrown e12 d os
      clear hz hsz
      generalize (cfOf x).size = sz at *
      go_wp2
      refine wp_region_quiet_below (by kernel_rfl) (by kernel_rfl) ?_
      repeat (go_big_quiet_step (first
        | (go_at_call 19; rename_i p; exact Calls.regrown_of (HC1.out p))
        | (go_at_call 18; rename_i p; exact Calls.regrown_of (HO.out _))
        | (go_at_call 13; rename_i p; exact Calls.regrown_of (HC2.out p))
        | (go_at_call 14; rename_i p; exact Calls.regrown_of ((core_log (HGW.out p)).mono fun _ _ q => ⟨q.1, q.2 ▸ Below.refl _ _⟩))
        | (go_at_call 20; rename_i p; exact Calls.regrown_of (HC5.out p))
        | (go_at_call 8; rename_i p; exact Calls.regrown_of ((core_cells (HGW.out p)).mono fun _ _ q => ⟨q.1, q.2 ▸ Below.refl _ _⟩))
        | (go_at_call 21; rename_i p; exact Calls.regrown_of (HC6.out p))
        | (go_at_call 22; rename_i p; exact Calls.regrown_of (HC3.out p))
        | (go_at_call 23; rename_i p; exact Calls.regrown_of (HC4.out p))))
      refine wpQuiet_nil ?_
      intro w5 hw'
      obtain ⟨p, rfl⟩ := hw'
      have hbx := below_regrown w4 p.d p.os
      replace e0 := below_cell hbx e0
      replace e1 := below_cell hbx e1
      replace e2 := below_cell hbx e2
      replace e3 := below_cell hbx e3
      replace e4 := below_cell hbx e4
      replace e5 := below_cell hbx e5
      replace e6 := below_cell hbx e6
      replace e7 := below_cell hbx e7
      replace e8 := below_cell hbx e8
      replace e9 := below_cell hbx e9
      replace e10 := below_cell hbx e10
      replace e11 := below_cell hbx e11
      replace e12 := below_cell hbx e12
      have HG5 := Go.Lib.hid (HG4.out.below hbx)
      have HB5 := Go.Lib.hid (HB4.out.trans (hbx.mono HB4.out.size))
      clear e0' e1' e2' e3' e4' e5' e6' e7' e8' e9' e10' e11' e12' hbx HC1 HC2 HC3 HC4 HC5 HC6 HGW HG4 HB4
      generalize Sort.grow (redrawn w4 p.d) p.os = w5 at *
      have hnn : (((cfOf x).nodes : Nat) : Int) = x 3 := by have h3 : (1 : Int) ≤ x 3 := (HOK.out 3 (by decide)).1; show (((x 3).toNat : Nat) : Int) = x 3; omega
      have htt : (((cfOf x).tickets : Nat) : Int) = x 4 := by have h3 : (1 : Int) ≤ x 4 := (HOK.out 4 (by decide)).1; show (((x 4).toNat : Nat) : Int) = x 4; omega
      have hn2 := (cfOf_ok HOK.out).n2
      have ht2 := (cfOf_ok HOK.out).t2
      have hch1 := nodes_chain HG5.out.ok
      have hch2 := tickets_chain HG5.out.ok
      have HNL : Hid (∀ W, Good E L (S0 E.cf) W → Calls Try.prog 26 #[nodesVal E] W fun e w' => ∃ v, e = .returned v ∧ w'.ownsRow W.heap.size 3 1 v (cfOf x).nodes ((List.range' 0 (cfOf x).nodes).map fun (x : Nat) => Value.int .i64 (x : Int)) ∧ Below W.heap.size W w') := fun W hW => by
        have h := stack_list hW 48 (fun _ _ => by kernel_rfl) 1 (by show 1 < E.cf.size; rw [HCF.out]; exact Nat.lt_of_lt_of_le (by decide) (cfOf_ok HOK.out).size_le.1) (fun i => E.cf.nodesAt + 4 * i + 3) (List.range' 0 E.cf.nodes)
          (fun i hi w hp => by
            have h := plan_NodeLink hW.ok E.p i w hp
            rw [nodeLink_at E.cf i (by rw [List.mem_range'_1] at hi; omega)] at h
            exact h) hch1 (by rw [List.length_range']; show E.cf.nodes ≤ E.cf.size; unfold Cf.size Cf.connsAt Cf.ticketsAt; omega)
        rw [List.length_range', HCF.out] at h
        exact h
      have HTL : Hid (∀ W, Good E L (S0 E.cf) W → Calls Try.prog 26 #[ticketsVal E] W fun e w' => ∃ v, e = .returned v ∧ w'.ownsRow W.heap.size 3 1 v (cfOf x).tickets ((List.range' 0 (cfOf x).tickets).map fun (x : Nat) => Value.int .i64 (x : Int)) ∧ Below W.heap.size W w') := fun W hW => by
        have h := stack_list hW 52 (fun _ _ => by kernel_rfl) 2 (by show 2 < E.cf.size; rw [HCF.out]; exact Nat.lt_of_lt_of_le (by decide) (cfOf_ok HOK.out).size_le.1) (fun i => E.cf.ticketsAt + 3 * i + 2) (List.range' 0 E.cf.tickets)
          (fun i hi w hp => by
            have h := plan_TicketLink hW.ok E.p i w hp
            rw [ticketLink_at E.cf i (by rw [List.mem_range'_1] at hi; omega)] at h
            exact h) hch2 (by rw [List.length_range']; show E.cf.tickets ≤ E.cf.size; unfold Cf.size Cf.connsAt; omega)
        rw [List.length_range', HCF.out] at h
        exact h
      have HF1 : Hid (∀ W, Calls Try.prog 27 #[.int .i64 (x 3)] W fun e w' => ∃ v, e = .returned v ∧ w'.ownsRow W.heap.size 3 1 v (cfOf x).nodes ((List.range' 0 (cfOf x).nodes).map fun (x : Nat) => Value.int .i64 (x : Int)) ∧ Below W.heap.size W w') := fun W => by
        have h := ref_Free (cfOf x).nodes (by omega) W
        rwa [hnn] at h
      have HF2 : Hid (∀ W, Calls Try.prog 27 #[.int .i64 (x 4)] W fun e w' => ∃ v, e = .returned v ∧ w'.ownsRow W.heap.size 3 1 v (cfOf x).tickets ((List.range' 0 (cfOf x).tickets).map fun (x : Nat) => Value.int .i64 (x : Int)) ∧ Below W.heap.size W w') := fun W => by
        have h := ref_Free (cfOf x).tickets (by omega) W
        rwa [htt] at h
      have HSA : Hid (∀ (n : Nat) (W : World) (b1 b2 : Nat) (va vb : Value), n ≤ 100000 → W.ownsRow b1 3 1 va n ((List.range' 0 n).map fun (x : Nat) => Value.int .i64 (x : Int)) → W.ownsRow b2 3 1 vb n ((List.range' 0 n).map fun (x : Nat) => Value.int .i64 (x : Int)) → Calls Try.prog 24 #[va, vb] W (Qt (.bool true) W)) := fun n W b1 b2 va vb hn h1 h2 => by
        have e1 : ((List.range' 0 n).map fun (x : Nat) => (x : Int)).length = n := by simp
        have e2 : (((List.range' 0 n).map fun (x : Nat) => (x : Int)).map (Value.int .i64)) = (List.range' 0 n).map fun (x : Nat) => Value.int .i64 (x : Int) := by rw [List.map_map]; rfl
        exact same_yes (base := b1) (base' := b2) W va vb ((List.range' 0 n).map fun (x : Nat) => (x : Int)) (by rw [e1, e2]; exact h1) (by rw [e1, e2]; exact h2) (by rw [e1]; omega)
      have HN2 := Go.Lib.hid (show (cfOf x).nodes ≤ 100000 by omega)
      have HT2 := Go.Lib.hid (show (cfOf x).tickets ≤ 100000 by omega)
      clear hch1 hch2 hnn htt hn2 ht2
      generalize (cfOf x).nodes = nn at *
      generalize (cfOf x).tickets = tt at *
      go_wp2
      go_region_held3 (fun w' => w'.cell? ⟨w.heap.size, 3, none⟩ = some (.int .i64 (x 3)) ∧ w'.cell? ⟨w.heap.size, 4, none⟩ = some (.int .i64 (x 4)))
        (first | exact ⟨e3, e4⟩)
        (first
        | (go_at_call 25; refine (core_Nodes HG5.out.drew).mono ?_; rintro e w6 ⟨rfl, hb6⟩; have e3 := below_cell hb6 e3; have e4 := below_cell hb6 e4; have hg6 := HG5.out.drew.below hb6)
        | (go_at_call 26; refine (HTL.out _ hg10).mono ?_; rintro e w11 ⟨v11, rfl, hown11, hb11⟩; have e3 := below_cell hb11 e3; have e4 := below_cell hb11 e4)
        | (go_at_call 26; refine (HNL.out _ hg6).mono ?_; rintro e w7 ⟨v7, rfl, hown7, hb7⟩; have e3 := below_cell hb7 e3; have e4 := below_cell hb7 e4)
        | (go_at_call 27; have hown11' := hown11; refine (HF2.out _).mono ?_; rintro e w12 ⟨v12, rfl, hown12, hb12⟩; have e3 := below_cell hb12 e3; have e4 := below_cell hb12 e4; have hown11b := own_kept hown11 (fun g hg => hb12.block g (own_lt hown11 hg)))
        | (go_at_call 27; refine (HF1.out _).mono ?_; rintro e w8 ⟨v8, rfl, hown8, hb8⟩; have e3 := below_cell hb8 e3; have e4 := below_cell hb8 e4; have hown7b := own_kept hown7 (fun g hg => hb8.block g (own_lt hown7 hg)))
        | (go_at_call 24; refine (HSA.out _ _ _ _ _ _ HT2.out hown11b hown12).mono ?_; intro e w13 hq; obtain ⟨rfl, hb13⟩ := hq.below; clear hq; have e3 := below_cell hb13 e3; have e4 := below_cell hb13 e4)
        | (go_at_call 24; refine (HSA.out _ _ _ _ _ _ HN2.out hown7b hown8).mono ?_; intro e w9 hq; obtain ⟨rfl, hb9⟩ := hq.below; clear hq; have e3 := below_cell hb9 e3; have e4 := below_cell hb9 e4; have hg9 := ((hg6.below hb7).below hb8).below hb9)
        | (go_at_call 28; refine (core_Tickets hg9).mono ?_; rintro e w10 ⟨rfl, hb10⟩; have e3 := below_cell hb10 e3; have e4 := below_cell hb10 e4; have hg10 := hg9.below hb10))
      have e0 := below_cell hb13 (below_cell hb12 (below_cell hb11 (below_cell hb10 (below_cell hb9 (below_cell hb8 (below_cell hb7 (below_cell hb6 e0)))))))
      have e6 := below_cell hb13 (below_cell hb12 (below_cell hb11 (below_cell hb10 (below_cell hb9 (below_cell hb8 (below_cell hb7 (below_cell hb6 e6)))))))
      have B6 := HB5.out.drew.trans (hb6.mono HB5.out.drew.size)
      have B7 := B6.trans (hb7.mono B6.size)
      have B8 := B7.trans (hb8.mono B7.size)
      have B9 := B8.trans (hb9.mono B8.size)
      have B10 := B9.trans (hb10.mono B9.size)
      have B11 := B10.trans (hb11.mono B10.size)
      have B12 := B11.trans (hb12.mono B11.size)
      have HB13 := Go.Lib.hid (B12.trans (hb13.mono B12.size))
      have HG13 := Go.Lib.hid (((hg10.below hb11).below hb12).below hb13)
      have F := FFacts.mk HCF.out HOK.out
      clear B6 B7 B8 B9 B10 B11 B12 hb6 hb7 hb8 hb9 hb10 hb11 hb12 hb13 hg6 hg9 hg10 hown7 hown8 hown11 hown12 hown7b hown11b HG5 HB5 HNL HTL HF1 HF2 HSA HN2 HT2 HO HOLD HCF HOK e1 e2 e5 e7 e8 e9 e10 e11 e12
      go_wp2
      go_loopw [92] (fun c wr => ∃ j : Nat, c = .int .i64 j ∧ (j : Int) ≤ x 0 ∧ Below w13.heap.size w13 wr) (fun c _ => (x 0).toNat - (intOf c).toNat)
      case atStart => exact ⟨0, rfl, F.w0, Below.refl _ _⟩
      case round =>
        obtain ⟨j, rfl, hj, hbj⟩ := hrel
        have HBJ := Go.Lib.hid hbj
        have hx0 := F.b0
        by_cases hjw : (j : Int) < x 0
        · have hd : decide ((j : Int) < x 0) = true := by simpa using hjw
          have hgj := HG13.out.below hbj
          obtain ⟨k, hk, h3, hkn⟩ := F.inbox j hjw
          have HBX : Hid (∀ W, Below wr.heap.size wr W → Calls Try.prog 30 #[boxVal E j] W fun e w' => (∃ a cap, e = .returned (.slice a 0 cap)) ∧ Below W.heap.size W w') := fun W hW => box_list0 (hgj.below hW) j k hk (F.lt hkn) (F.zero h3 hkn)
          have HWL : Hid (∀ (W : World) (b : Nat), Below wr.heap.size wr W → W.cell? ⟨b, 0, none⟩ = some (.pointer (some ⟨E.k, 0, none⟩)) → W.cell? ⟨b + 1, 0, none⟩ = some (.int .i64 j) → Calls Try.prog 32 #[wheelVal E j b] W fun e w' => e = .returned (.slice none 0 0) ∧ Below W.heap.size W w') := fun W b hW h0 h1 => wheel_list0 (hgj.below hW) j (F.wk hjw) b h0 h1 (fun k h3 hk => F.zero h3 hk) F.nn
          have HGJ := Go.Lib.hid hgj
          clear hbj hgj hk h3 hkn
          go_wp2_with fail
          refine (core_box HGJ.out j).mono ?_
          rintro e w14 ⟨rfl, hb14⟩
          have HB14 := Go.Lib.hid hb14
          clear hb14
          go_wp2_with fail
          refine (HBX.out _ HB14.out).mono ?_
          rintro e w15 ⟨⟨a, cap, rfl⟩, hb15⟩
          have HB15 := Go.Lib.hid (HB14.out.trans (hb15.mono HB14.out.size))
          clear hb15
          go_wp2_with fail
          refine (core_wheel (HGJ.out.below HB15.out) j).mono ?_
          rintro e w16 ⟨rfl, hb16, h0, h1⟩
          have HB16 := Go.Lib.hid (HB15.out.trans (hb16.mono HB15.out.size))
          have HWW := Go.Lib.hid (HWL.out w16 _ HB16.out h0 h1)
          clear hb16 h0 h1
          go_wp2_with fail
          refine HWW.out.mono ?_
          rintro e w17 ⟨rfl, hb17⟩
          have HB17 := Go.Lib.hid (HB16.out.trans (hb17.mono HB16.out.size))
          clear hb17
          go_wp2
          refine ⟨⟨j + 1, by first | rfl | simp, by omega, HBJ.out.trans (HB17.out.mono HBJ.out.size)⟩, by simp [intOf]; omega⟩
        · have hd : decide ((j : Int) < x 0) = false := by simpa using hjw
          replace e3 := below_cell hbj e3
          replace e6 := below_cell hbj e6
          have HGJ := Go.Lib.hid (HG13.out.below hbj)
          have HBA := Go.Lib.hid (HB13.out.trans (hbj.mono HB13.out.size))
          clear hbj HBJ
          go_wp2
          go_loopw [112] (fun c wr2 => ∃ i : Nat, c = .int .i64 i ∧ (i : Int) ≤ x 3 ∧ Below wr.heap.size wr wr2) (fun c _ => (x 3).toNat - (intOf c).toNat)
          case atStart => exact ⟨0, rfl, F.n0, Below.refl _ _⟩
          case round =>
            obtain ⟨i, rfl, hi, hbi⟩ := hrel
            replace e3 := below_cell hbi e3
            replace e6 := below_cell hbi e6
            have HBI := Go.Lib.hid hbi
            have HGI := Go.Lib.hid (HGJ.out.below hbi)
            clear hbi
            have hx3 := F.b3
            by_cases hil : (i : Int) < x 3
            · have hd2 : decide ((i : Int) < x 3) = true := by simpa using hil
              have e6' : ∀ d os, (Sort.grow (redrawn wr d) os).cell? ⟨w.heap.size, 6, none⟩ = some (.int .i64 (x 6)) := fun d os => cell_regrown e6 d os
              have HST : Hid (∀ p : Regrown, Calls Try.prog 33 #[.pointer (some ⟨E.k, 0, none⟩), .int .i64 i] (Sort.grow (redrawn wr p.d) p.os) fun e w' => e = .returned (.agg #[.int .i64 (x 6), .int .i64 0, .int .i64 0]) ∧ Below (Sort.grow (redrawn wr p.d) p.os).heap.size (Sort.grow (redrawn wr p.d) p.os) w') := fun p => F.state (HGI.out.below (below_regrown wr p.d p.os)) hil
              go_wp2
              refine wp_region_quiet_below (by kernel_rfl) (by kernel_rfl) ?_
              repeat (go_big_quiet_step (first
                | (go_at_call 33; rename_i p; exact Calls.regrown_of (HST.out p))))
              refine wpQuiet_nil ?_
              intro w14 hw'
              obtain ⟨p, rfl⟩ := hw'
              have HB14 := Go.Lib.hid (HBI.out.trans ((below_regrown wr p.d p.os).mono HBI.out.size))
              clear e6' HST
              generalize Sort.grow (redrawn wr p.d) p.os = w14 at *
              go_wp2
              refine ⟨⟨i + 1, by first | rfl | simp, by omega, HB14.out⟩, by simp [intOf]; omega⟩
            · have hd2 : decide ((i : Int) < x 3) = false := by simpa using hil
              go_wp2_with fail
              refine (core_state_no HGI.out (-1) (F.noState _ (by omega))).mono ?_
              rintro e w14 ⟨rfl, hb14⟩
              replace e3 := below_cell hb14 e3
              have HB14 := Go.Lib.hid (HBI.out.trans (hb14.mono HBI.out.size))
              have HG14 := Go.Lib.hid (HGI.out.below hb14)
              clear hb14
              go_wp2_with fail
              refine (core_state_no HG14.out (x 3) (F.noState _ (by omega))).mono ?_
              rintro e w15 ⟨rfl, hb15⟩
              have HB15 := Go.Lib.hid (HB14.out.trans (hb15.mono HB14.out.size))
              have HG15 := Go.Lib.hid (HG14.out.below hb15)
              clear hb15
              have HCO : Hid (Calls Try.prog 21 #[.pointer (some ⟨E.a, 0, none⟩)] w15 fun e w' => e = .returned (.int .i64 0) ∧ w' = w15) := arena_count HG15.out
              go_wp2_with (first
                | (go_at_call 8; refine (core_cells HG15.out).mono ?_; rintro e w15 ⟨rfl, rfl⟩)
                | fail)
              refine HCO.out.mono ?_
              rintro e w16 ⟨rfl, rfl⟩
              go_wp2
              go_ret
              exact ⟨rfl, HBA.out.trans (HB15.out.mono HBA.out.size)⟩
    · rw [decide_eq_false hsm]
      go_wp2_with fail
      refine (law15_speaks _).mono ?_
      rintro e w9 ⟨rfl, hb9⟩
      replace hb := hb.trans (hb9.mono hb.size)
      clear hb9
      go_wp2
      go_ret
      exact ⟨rfl, hb⟩
  · rw [decide_eq_false hok] at HR ⊢
    have HNO := Go.Lib.hid (core_new_no x hok)
    clear hok HS
    go_wp2_with fail
    refine (HO.out _).mono ?_
    rintro e w2c ⟨rfl, hb1⟩
    replace e0 := below_cell hb1 e0
    replace e1 := below_cell hb1 e1
    replace e2 := below_cell hb1 e2
    replace e3 := below_cell hb1 e3
    replace e4 := below_cell hb1 e4
    replace e5 := below_cell hb1 e5
    replace e6 := below_cell hb1 e6
    replace e7 := below_cell hb1 e7
    replace e8 := below_cell hb1 e8
    replace e9 := below_cell hb1 e9
    replace e10 := below_cell hb1 e10
    replace e11 := below_cell hb1 e11
    replace e12 := below_cell hb1 e12
    replace hb := hb.trans (hb1.mono hb.size)
    clear hb1
    go_wp2_with fail
    refine (HNO.out _).mono ?_
    rintro e w3 ⟨rfl, hb1⟩
    replace e0 := below_cell hb1 e0
    replace e1 := below_cell hb1 e1
    replace e2 := below_cell hb1 e2
    replace e3 := below_cell hb1 e3
    replace e4 := below_cell hb1 e4
    replace e5 := below_cell hb1 e5
    replace e6 := below_cell hb1 e6
    replace e7 := below_cell hb1 e7
    replace e8 := below_cell hb1 e8
    replace e9 := below_cell hb1 e9
    replace e10 := below_cell hb1 e10
    replace e11 := below_cell hb1 e11
    replace e12 := below_cell hb1 e12
    replace hb := hb.trans (hb1.mono hb.size)
    clear hb1 HNO
    go_wp2_with fail
    refine (HR.out _).mono ?_
    rintro e w4 ⟨rfl, hb1⟩
    replace hb := hb.trans (hb1.mono hb.size)
    clear hb1 HR
    go_wp2
    go_ret
    exact ⟨rfl, hb⟩
end Go.Proofs.Ytlbjjooiiikmjaa

