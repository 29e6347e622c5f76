/- The law CoreTicks. -/
import Derived.Test.YtlbjjooiiikmjaaTe
import Derived.Test.YtlbjjooiiikmjaaBb
namespace Go.Proofs.Ytlbjjooiiikmjaa
open Go.RowKit
set_option maxRecDepth 100000
set_option linter.unusedVariables false

/-- So many ticks. -/
def tickN : Nat → St → St
  | 0, S => S
  | k + 1, S => (tickN k S).tick
theorem tickN_m (S : St) : ∀ k, (tickN k S).m 0 = S.m 0 + k
  | 0 => rfl
  | k + 1 => by show (tickN k S).m 0 + 1 = _; rw [tickN_m S k]; omega
theorem tickN_n (S : St) : ∀ k, (tickN k S).n = S.n
  | 0 => rfl
  | k + 1 => by show (tickN k S).n = _; rw [tickN_n S k]
theorem tickN_cnt (S : St) : ∀ k, (tickN k S).cnt = S.cnt + k
  | 0 => rfl
  | k + 1 => by show (tickN k S).cnt + 1 = _; rw [tickN_cnt S k]; omega
theorem tickN_log (S : St) : ∀ k, (tickN k S).log = S.log ++ (List.range k).map fun i => tickEv (S.m 0 + i + 1)
  | 0 => by show S.log = S.log ++ []; rw [List.append_nil]
  | k + 1 => by
    show (tickN k S).log ++ [tickEv ((tickN k S).m 0 + 1)] = _
    rw [tickN_log S k, tickN_m, List.range_succ, List.map_append, List.append_assoc]
    rfl

theorem put_cnt1' (c : Cf) (i : Int) (u : Nat) : ((S0 c).put i u).cnt ≤ 1 := by
  unfold St.put
  split
  · exact Nat.le_refl _
  · exact Nat.zero_le _
theorem put_first (c : Cf) (v : Nat) (h : 0 < (S0 c).n) : ((S0 c).put 0 v).m 0 = v ∧ 0 < ((S0 c).put 0 v).n ∧ ((S0 c).put 0 v).cnt ≤ 1 ∧ ((S0 c).put 0 v).log = [] := by
  have h2 : (S0 c).has 0 := ⟨Int.le_refl _, by omega⟩
  refine ⟨?_, ?_, put_cnt1' c 0 v, ?_⟩
  · unfold St.put
    rw [if_pos h2]
    rfl
  · unfold St.put
    rw [if_pos h2]
    exact h
  · unfold St.put
    rw [if_pos h2]
    rfl
theorem flat_at : ∀ (l : List Ev) (k : Nat) (e : Ev), l[k]? = some e → ∀ t, t < 12 → (l.flatMap Ev.cells)[k * 12 + t]? = (e.cells)[t]?
  | [], k, e, h, _, _ => by simp at h
  | a :: l, 0, e, h, t, ht => by
    obtain rfl : a = e := by simpa using h
    rw [List.flatMap_cons, Nat.zero_mul, Nat.zero_add, List.getElem?_append_left (show t < 12 from ht)]
  | a :: l, k + 1, e, h, t, ht => by
    have h' : l[k]? = some e := by simpa using h
    have e2 : (k + 1) * 12 + t = 12 + (k * 12 + t) := by omega
    rw [List.flatMap_cons, e2, List.getElem?_append_right (show 12 ≤ 12 + (k * 12 + t) from Nat.le_add_right _ _)]
    show (l.flatMap Ev.cells)[12 + (k * 12 + t) - 12]? = _
    rw [Nat.add_sub_cancel_left]
    exact flat_at l k e h' t ht
theorem tick_cells {w : World} {base K cap F : Nat} {a : Option Addr} (h : w.ownsRow base 43 12 (.slice a K cap) K (((List.range K).map fun i => tickEv (F + i + 1)).flatMap Ev.cells)) (k : Nat) (hk : k < K) :
    ∃ g, a = some ⟨g, 0, none⟩ ∧ ∀ t, t < 12 → w.cell? ⟨g, k * 12 + t, none⟩ = ((tickEv (F + k + 1)).cells)[t]? := by
  rcases h.2 with ⟨he, h0⟩ | ⟨g, cap', cur, he, _⟩
  · omega
  · cases he
    refine ⟨g, rfl, fun t ht => ?_⟩
    have hf := flat_at ((List.range K).map fun i => tickEv (F + i + 1)) k (tickEv (F + k + 1)) (by rw [List.getElem?_map, List.getElem?_range hk]; rfl) t ht
    have hlt : t < (tickEv (F + k + 1)).cells.length := ht
    rw [List.getElem?_eq_getElem hlt] at hf ⊢
    exact own_cells h _ _ hf
theorem tk_vals {a : Int} (h0 : 0 ≤ a) (h1 : a < 1073741823) : IntKind.i64.wrap a = a ∧ min a 1073741823 = a ∧ IntKind.i64.wrap (a + 1) = a + 1 ∧ min (a + 1) 1073741823 = a + 1 ∧ decide (a < 1073741823) = true := by
  refine ⟨IntWalk.i64_in _ (by omega), by omega, IntWalk.i64_in _ (by omega), by omega, ?_⟩
  rw [decide_eq_true_eq]
  exact h1
set_option maxHeartbeats 8000000 in
theorem law15_CoreTicks (x : Nat → Int) (n : Nat) (hn : n ≤ 255) (late : Bool) (w : World) :
    Calls Try.prog 3 #[.agg #[.int .i64 (x 0), .int .i64 (x 1), .int .i64 (x 2), .int .i64 (x 3), .int .i64 (x 4), .int .i64 (x 5), .int .i64 (x 6), .int .i64 (x 7), .int .i64 (x 8), .int .i64 (x 9), .int .i64 (x 10), .int .i64 (x 11), .int .i64 (x 12)], .int .u8 n, .bool late] w fun e w' => e = .returned (.bool true) ∧ Below w.heap.size w w' := by
  have hb : Below w.heap.size w (w.alloc (.cells #[.int .i64 (x 0), .int .i64 (x 1), .int .i64 (x 2), .int .i64 (x 3), .int .i64 (x 4), .int .i64 (x 5), .int .i64 (x 6), .int .i64 (x 7), .int .i64 (x 8), .int .i64 (x 9), .int .i64 (x 10), .int .i64 (x 11), .int .i64 (x 12)] 23)) := (Below.refl _ _).alloc (Nat.le_refl _) _
  have e0 : (w.alloc (.cells #[.int .i64 (x 0), .int .i64 (x 1), .int .i64 (x 2), .int .i64 (x 3), .int .i64 (x 4), .int .i64 (x 5), .int .i64 (x 6), .int .i64 (x 7), .int .i64 (x 8), .int .i64 (x 9), .int .i64 (x 10), .int .i64 (x 11), .int .i64 (x 12)] 23)).cell? ⟨w.heap.size, 0, none⟩ = some (.int .i64 (x 0)) := by go_simp
  have e1 : (w.alloc (.cells #[.int .i64 (x 0), .int .i64 (x 1), .int .i64 (x 2), .int .i64 (x 3), .int .i64 (x 4), .int .i64 (x 5), .int .i64 (x 6), .int .i64 (x 7), .int .i64 (x 8), .int .i64 (x 9), .int .i64 (x 10), .int .i64 (x 11), .int .i64 (x 12)] 23)).cell? ⟨w.heap.size, 1, none⟩ = some (.int .i64 (x 1)) := by go_simp
  have e2 : (w.alloc (.cells #[.int .i64 (x 0), .int .i64 (x 1), .int .i64 (x 2), .int .i64 (x 3), .int .i64 (x 4), .int .i64 (x 5), .int .i64 (x 6), .int .i64 (x 7), .int .i64 (x 8), .int .i64 (x 9), .int .i64 (x 10), .int .i64 (x 11), .int .i64 (x 12)] 23)).cell? ⟨w.heap.size, 2, none⟩ = some (.int .i64 (x 2)) := by go_simp
  have e3 : (w.alloc (.cells #[.int .i64 (x 0), .int .i64 (x 1), .int .i64 (x 2), .int .i64 (x 3), .int .i64 (x 4), .int .i64 (x 5), .int .i64 (x 6), .int .i64 (x 7), .int .i64 (x 8), .int .i64 (x 9), .int .i64 (x 10), .int .i64 (x 11), .int .i64 (x 12)] 23)).cell? ⟨w.heap.size, 3, none⟩ = some (.int .i64 (x 3)) := by go_simp
  have e4 : (w.alloc (.cells #[.int .i64 (x 0), .int .i64 (x 1), .int .i64 (x 2), .int .i64 (x 3), .int .i64 (x 4), .int .i64 (x 5), .int .i64 (x 6), .int .i64 (x 7), .int .i64 (x 8), .int .i64 (x 9), .int .i64 (x 10), .int .i64 (x 11), .int .i64 (x 12)] 23)).cell? ⟨w.heap.size, 4, none⟩ = some (.int .i64 (x 4)) := by go_simp
  have e5 : (w.alloc (.cells #[.int .i64 (x 0), .int .i64 (x 1), .int .i64 (x 2), .int .i64 (x 3), .int .i64 (x 4), .int .i64 (x 5), .int .i64 (x 6), .int .i64 (x 7), .int .i64 (x 8), .int .i64 (x 9), .int .i64 (x 10), .int .i64 (x 11), .int .i64 (x 12)] 23)).cell? ⟨w.heap.size, 5, none⟩ = some (.int .i64 (x 5)) := by go_simp
  have e6 : (w.alloc (.cells #[.int .i64 (x 0), .int .i64 (x 1), .int .i64 (x 2), .int .i64 (x 3), .int .i64 (x 4), .int .i64 (x 5), .int .i64 (x 6), .int .i64 (x 7), .int .i64 (x 8), .int .i64 (x 9), .int .i64 (x 10), .int .i64 (x 11), .int .i64 (x 12)] 23)).cell? ⟨w.heap.size, 6, none⟩ = some (.int .i64 (x 6)) := by go_simp
  have e7 : (w.alloc (.cells #[.int .i64 (x 0), .int .i64 (x 1), .int .i64 (x 2), .int .i64 (x 3), .int .i64 (x 4), .int .i64 (x 5), .int .i64 (x 6), .int .i64 (x 7), .int .i64 (x 8), .int .i64 (x 9), .int .i64 (x 10), .int .i64 (x 11), .int .i64 (x 12)] 23)).cell? ⟨w.heap.size, 7, none⟩ = some (.int .i64 (x 7)) := by go_simp
  have e8 : (w.alloc (.cells #[.int .i64 (x 0), .int .i64 (x 1), .int .i64 (x 2), .int .i64 (x 3), .int .i64 (x 4), .int .i64 (x 5), .int .i64 (x 6), .int .i64 (x 7), .int .i64 (x 8), .int .i64 (x 9), .int .i64 (x 10), .int .i64 (x 11), .int .i64 (x 12)] 23)).cell? ⟨w.heap.size, 8, none⟩ = some (.int .i64 (x 8)) := by go_simp
  have e9 : (w.alloc (.cells #[.int .i64 (x 0), .int .i64 (x 1), .int .i64 (x 2), .int .i64 (x 3), .int .i64 (x 4), .int .i64 (x 5), .int .i64 (x 6), .int .i64 (x 7), .int .i64 (x 8), .int .i64 (x 9), .int .i64 (x 10), .int .i64 (x 11), .int .i64 (x 12)] 23)).cell? ⟨w.heap.size, 9, none⟩ = some (.int .i64 (x 9)) := by go_simp
  have e10 : (w.alloc (.cells #[.int .i64 (x 0), .int .i64 (x 1), .int .i64 (x 2), .int .i64 (x 3), .int .i64 (x 4), .int .i64 (x 5), .int .i64 (x 6), .int .i64 (x 7), .int .i64 (x 8), .int .i64 (x 9), .int .i64 (x 10), .int .i64 (x 11), .int .i64 (x 12)] 23)).cell? ⟨w.heap.size, 10, none⟩ = some (.int .i64 (x 10)) := by go_simp
  have e11 : (w.alloc (.cells #[.int .i64 (x 0), .int .i64 (x 1), .int .i64 (x 2), .int .i64 (x 3), .int .i64 (x 4), .int .i64 (x 5), .int .i64 (x 6), .int .i64 (x 7), .int .i64 (x 8), .int .i64 (x 9), .int .i64 (x 10), .int .i64 (x 11), .int .i64 (x 12)] 23)).cell? ⟨w.heap.size, 11, none⟩ = some (.int .i64 (x 11)) := by go_simp
  have e12 : (w.alloc (.cells #[.int .i64 (x 0), .int .i64 (x 1), .int .i64 (x 2), .int .i64 (x 3), .int .i64 (x 4), .int .i64 (x 5), .int .i64 (x 6), .int .i64 (x 7), .int .i64 (x 8), .int .i64 (x 9), .int .i64 (x 10), .int .i64 (x 11), .int .i64 (x 12)] 23)).cell? ⟨w.heap.size, 12, none⟩ = some (.int .i64 (x 12)) := by go_simp
  have HS := Go.Lib.hid (law15_Small x)
  have HB := Go.Lib.hid (law15_Begin x)
  go_enter Try.func3, Try.ntmps3
  go_wp2_with fail
  refine (law15_speaks _).mono ?_
  rintro e w1 ⟨rfl, hb1⟩
  replace e0 := below_cell hb1 e0
  replace e1 := below_cell hb1 e1
  replace e2 := below_cell hb1 e2
  replace e3 := below_cell hb1 e3
  replace e4 := below_cell hb1 e4
  replace e5 := below_cell hb1 e5
  replace e6 := below_cell hb1 e6
  replace e7 := below_cell hb1 e7
  replace e8 := below_cell hb1 e8
  replace e9 := below_cell hb1 e9
  replace e10 := below_cell hb1 e10
  replace e11 := below_cell hb1 e11
  replace e12 := below_cell hb1 e12
  replace hb := hb.trans (hb1.mono hb.size)
  clear hb1
  go_wp2_with fail
  refine (HS.out _).mono ?_
  rintro e w2 ⟨rfl, hb1⟩
  replace e0 := below_cell hb1 e0
  replace e1 := below_cell hb1 e1
  replace e2 := below_cell hb1 e2
  replace e3 := below_cell hb1 e3
  replace e4 := below_cell hb1 e4
  replace e5 := below_cell hb1 e5
  replace e6 := below_cell hb1 e6
  replace e7 := below_cell hb1 e7
  replace e8 := below_cell hb1 e8
  replace e9 := below_cell hb1 e9
  replace e10 := below_cell hb1 e10
  replace e11 := below_cell hb1 e11
  replace e12 := below_cell hb1 e12
  replace hb := hb.trans (hb1.mono hb.size)
  clear hb1 HS
  by_cases hsm : smallI x
  · rw [decide_eq_true hsm]
    have HBE := Go.Lib.hid (HB.out hsm)
    have hok := cfOf_ok hsm.1
    have hz := freshM_zero hok
    have hsz := hok.size_le
    clear HB
    go_wp2_with fail
    refine (HBE.out _).mono ?_
    rintro e w3 ⟨E, L, w0, rfl, hb3, hborn⟩
    obtain ⟨hcf, hgood, hbl, hold, hnr, hek⟩ := hborn
    have hb0 := hb.trans (hb3.mono hb.size)
    have HB3 := Go.Lib.hid (hb0.trans (hbl.mono hb0.size))
    have HOLD : Hid (∀ b, b < w.heap.size → L b = 0) := fun b hlt => hold b (Nat.lt_of_lt_of_le hlt hb0.size)
    rw [← hcf] at hgood hz hsz
    have HG := Go.Lib.hid hgood
    have hwn : IntKind.i64.wrap (n : Int) = n := IntWalk.i64_in _ (by omega)
    have ht1 : (n : Int).tmod 50 = ((n % 50 : Nat) : Int) := by rw [Int.tmod_eq_emod_of_nonneg (by omega)]; omega
    have ht2 : (n : Int) % 50 = ((n % 50 : Nat) : Int) := by omega
    have hm50 : n % 50 < 50 := Nat.mod_lt _ (by decide)
    generalize n % 50 = m at *
    have hS0 : (S0 E.cf).m 0 = 0 := hz
    have hN0 : 0 < (S0 E.cf).n := by show 0 < E.cf.size; omega
    have hF : Hid ((S0 E.cf).m 0 = 0 ∧ 0 < (S0 E.cf).n) := ⟨hS0, hN0⟩
    clear hcf hgood hbl hold hnr hek hb0 hb3 hb HBE hok hz hsz hS0 hN0 hsm e0 e1 e2 e3 e4 e5 e6 e7 e8 e9 e10 e11 e12
    cases late with
    | true =>
      go_wp2_with (first
        | (go_at_call 8; refine (core_cells HG.out).mono ?_; rintro e w3 ⟨rfl, rfl⟩)
        | (go_at_call 10; refine (core_plan HG.out).mono ?_; rintro e w3 ⟨rfl, rfl⟩)
        | (go_at_call 11; refine (plan_Clock E.p _).mono ?_; rintro e w3 ⟨rfl, rfl⟩)
        | fail)
      have hc0 := put_cnt1' E.cf 0 1073741820
      refine (arena_store HG.out 0 1073741820 (by decide) (Nat.le_trans hc0 (by decide))).mono ?_
      rintro e w4 ⟨rfl, hg4, hs4⟩
      have HF : Hid (((S0 E.cf).put 0 1073741820).m 0 = 1073741820 ∧ 0 < ((S0 E.cf).put 0 1073741820).n ∧ ((S0 E.cf).put 0 1073741820).cnt ≤ 1 ∧ ((S0 E.cf).put 0 1073741820).log = []) := put_first E.cf 1073741820 hF.out.2
      have HG1 := Go.Lib.hid hg4
      have HB1 := Go.Lib.hid (hs4.below_old HB3.out (Nat.le_refl _) HOLD.out)
      have HOLD1 := HOLD
      have L1eq : ∃ L1, L1 = L := ⟨L, rfl⟩
      clear hF hg4 hs4 hc0 HG HB3
      generalize (S0 E.cf).put 0 1073741820 = S1 at *
      obtain ⟨L1, rfl⟩ := L1eq
      have hm0 : S1.m 0 = 1073741820 := HF.out.1
      have HN := Go.Lib.hid (show 0 < S1.n from HF.out.2.1)
      go_wp2
      go_loopw [9, 10, 11, 40] (fun _ _ _ c wr => ∃ (j : Nat) (L2 : Lab), c = .int .i64 j ∧ j ≤ m ∧ Good E L2 (tickN (min j 3) S1) wr ∧ Below w.heap.size w wr ∧ ∀ b, b < w.heap.size → L2 b = 0) (fun _ _ _ c _ => m - (intOf c).toNat)
      case atStart => exact ⟨0, L1, rfl, Nat.zero_le _, by rw [Nat.zero_min]; exact HG1.out, HB1.out, HOLD1.out⟩
      case round =>
        obtain ⟨j, L2, rfl, hj, hg, hbw, hold⟩ := hrel
        have hgm : (tickN (min j 3) S1).m 0 = 1073741820 + min j 3 := by rw [tickN_m, hm0]
        clear HG1 HB1 HOLD1 hm0
        by_cases hjm : j < m
        · have hd0 : decide ((j : Int) < (m : Int)) = true := by simp; omega
          by_cases hlt : j < 3
          · rw [Nat.min_eq_left (Nat.le_of_lt hlt)] at hg hgm
            have hTK := core_tick hg (by rw [tickN_n]; exact HN.out) (by rw [hgm]; omega) (by rw [tickN_cnt]; have := HF.out.2.2.1; omega) (by rw [tickN_log, HF.out.2.2.2, List.nil_append, List.length_map, List.length_range]; omega)
            have HTK := Go.Lib.hid hTK
            have HB2 := Go.Lib.hid hbw
            have HO2 := Go.Lib.hid hold
            have HGM := Go.Lib.hid hgm
            have v0 : (1073741820 + (j : Int)) < 1073741823 := by omega
            obtain ⟨v1, v2, v3, v4, v5⟩ := tk_vals (a := (1073741820 + (j : Int))) (by omega) v0
            clear hg hbw hold hTK hgm
            go_wp2_with fail
            refine HTK.out.mono ?_
            rintro e w5 ⟨L3, rfl, hg3, hs3⟩
            have hck := core_clock hg3 (by show 0 < (tickN j S1).n; rw [tickN_n]; exact HN.out) (by show (tickN j S1).m 0 + 1 < _; rw [HGM.out]; omega)
            have hcv : ((((tickN j S1).tick.m 0 : Nat) : Nat) : Int) = (1073741820 + (j : Int)) + 1 := by show ((((tickN j S1).m 0 + 1 : Nat)) : Int) = _; rw [HGM.out]; omega
            rw [hcv] at hck
            have HCK := Go.Lib.hid hck
            have HG3 := Go.Lib.hid hg3
            have HB5 := Go.Lib.hid (hs3.below_old HB2.out (Nat.le_refl _) HO2.out)
            have HO5 : Hid (∀ b, b < w.heap.size → L3 b = 0) := fun b hlt => (hs3.lab b (Nat.lt_of_lt_of_le hlt HB2.out.size)).trans (HO2.out b hlt)
            clear hck hg3 hs3 hcv HGM HTK
            go_wp2_with fail
            refine HCK.out.mono ?_
            rintro e w6 ⟨rfl, hb6⟩
            have HB6 := Go.Lib.hid hb6
            clear hb6
            go_wp2
            refine ⟨⟨j + 1, L3, by first | rfl | simp, by omega, by rw [Nat.min_eq_left (by omega)]; exact HG3.out.below HB6.out, HB5.out.trans (HB6.out.mono HB5.out.size), HO5.out⟩, by simp [intOf]; omega⟩
          · rw [Nat.min_eq_right (by omega)] at hg hgm
            have hTK := core_tick_no hg (by rw [tickN_n]; exact HN.out) (by rw [hgm]; omega) (by rw [hgm]; omega)
            have hCK := fun W (hW : Below wr.heap.size wr W) => core_clock (hg.below hW) (by rw [tickN_n]; exact HN.out) (by rw [hgm]; omega)
            rw [hgm] at hCK
            have HTK := Go.Lib.hid hTK
            have HCK := Go.Lib.hid hCK
            have HG2 := Go.Lib.hid hg
            have HB2 := Go.Lib.hid hbw
            have HO2 := Go.Lib.hid hold
            have v1 : IntKind.i64.wrap (1073741820 + (j : Int)) = (1073741820 + (j : Int)) := IntWalk.i64_in _ (by omega)
            have v2 : min (1073741820 + (j : Int)) 1073741823 = 1073741823 := by omega
            clear hg hbw hold hTK hCK hgm
            by_cases h3 : j = 3
            · subst h3
              go_wp2_with fail
              refine HTK.out.mono ?_
              rintro e w5 ⟨rfl, hb5⟩
              have HCK5 := Go.Lib.hid (HCK.out w5 hb5)
              have HB5 := Go.Lib.hid hb5
              clear hb5
              go_wp2_with fail
              refine HCK5.out.mono ?_
              rintro e w6 ⟨rfl, hb6⟩
              have HB6 := Go.Lib.hid (HB5.out.trans (hb6.mono HB5.out.size))
              clear hb6
              go_wp2
              refine ⟨⟨3 + 1, L2, by first | rfl | simp, by omega, by rw [Nat.min_eq_right (by omega)]; exact HG2.out.below HB6.out, HB2.out.trans (HB6.out.mono HB2.out.size), HO2.out⟩, by simp [intOf]; omega⟩
            · have h4 : (1073741823 : Int) < (1073741820 + (j : Int)) := by omega
              go_wp2_with fail
              refine HTK.out.mono ?_
              rintro e w5 ⟨rfl, hb5⟩
              have HCK5 := Go.Lib.hid (HCK.out w5 hb5)
              have HB5 := Go.Lib.hid hb5
              clear hb5
              go_wp2_with fail
              refine HCK5.out.mono ?_
              rintro e w6 ⟨rfl, hb6⟩
              have HB6 := Go.Lib.hid (HB5.out.trans (hb6.mono HB5.out.size))
              clear hb6
              go_wp2
              refine ⟨⟨j + 1, L2, by first | rfl | simp, by omega, by rw [Nat.min_eq_right (by omega)]; exact HG2.out.below HB6.out, HB2.out.trans (HB6.out.mono HB2.out.size), HO2.out⟩, by simp [intOf]; omega⟩
        · obtain rfl : j = m := by omega
          by_cases h3 : (3 : Int) < (j : Int)
          · skip
            have hd0 : decide ((j : Int) < (j : Int)) = false := by simp
            have HB2 := Go.Lib.hid hbw
            have hlen : (tickN (min j 3) S1).log = (List.range (min j 3)).map fun i => tickEv (1073741820 + i + 1) := by rw [tickN_log, HF.out.2.2.2, List.nil_append, HF.out.1]
            have hll := log_list hg (by rw [hlen, List.length_map, List.length_range]; omega)
            rw [hlen, List.length_map, List.length_range] at hll
            have HLL := Go.Lib.hid hll
            have HG2 := Go.Lib.hid hg
            have hK2 : min j 3 < 50 := by omega
            obtain ⟨K, hKe⟩ : ∃ K, K = min j 3 := ⟨_, rfl⟩
            have KE := Go.Lib.hid hKe
            rw [← hKe] at hK2 HLL
            clear hg hbw hold hlen hll hgm HF hKe
            go_wp2_with (first
              | (go_at_call 14; refine (core_log HG2.out).mono ?_; rintro e wr ⟨rfl, rfl⟩)
              | fail)
            refine HLL.out.mono ?_
            rintro e w7 ⟨v, rfl, hown, hb7⟩
            have HB7 := Go.Lib.hid (HB2.out.trans (hb7.mono HB2.out.size))
            obtain ⟨a, cap, hv⟩ := own_form hown
            have hcl : ∀ k : Nat, k < K → ∃ g, a = some ⟨g, 0, none⟩ ∧ ∀ t, t < 12 → w7.cell? ⟨g, k * 12 + t, none⟩ = ((tickEv (1073741820 + k + 1)).cells)[t]? := by
              intro k hk
              subst hv
              exact tick_cells hown k hk
            have HCL := Go.Lib.hid hcl
            subst hv
            clear hown hb7 hcl HLL HG2 HB2
            go_wp2
            go_loopw [14, 15, 73] (fun _ _ c wr => ∃ k : Nat, c = .int .i64 k ∧ k ≤ K ∧ Below w7.heap.size w7 wr) (fun _ _ c _ => K - (intOf c).toNat)
            case atStart => exact ⟨0, rfl, Nat.zero_le _, Below.refl _ _⟩
            case round =>
              obtain ⟨k, rfl, hk, hbk⟩ := hrel
              have HBK := Go.Lib.hid hbk
              by_cases hkK : k < K
              · have hdk : decide ((k : Int) < (K : Int)) = true := by simp; omega
                obtain ⟨g, rfl, hce⟩ := HCL.out k hkK
                have c0 : wr.cell? ⟨g, k * 12, none⟩ = some (.int .i64 1) := below_cell hbk (hce 0 (by decide))
                have c1 : wr.cell? ⟨g, k * 12 + 1, none⟩ = some (.int .i64 0) := below_cell hbk (hce 1 (by decide))
                have c2 : wr.cell? ⟨g, k * 12 + 2, none⟩ = some (.int .i64 0) := below_cell hbk (hce 2 (by decide))
                have c3 : wr.cell? ⟨g, k * 12 + 3, none⟩ = some (.int .i64 0) := below_cell hbk (hce 3 (by decide))
                have c4 : wr.cell? ⟨g, k * 12 + 4, none⟩ = some (.int .i64 0) := below_cell hbk (hce 4 (by decide))
                have c5 : wr.cell? ⟨g, k * 12 + 5, none⟩ = some (.int .i64 0) := below_cell hbk (hce 5 (by decide))
                have c6 : wr.cell? ⟨g, k * 12 + 6, none⟩ = some (.int .i64 0) := below_cell hbk (hce 6 (by decide))
                have c7 : wr.cell? ⟨g, k * 12 + 7, none⟩ = some (.int .i64 (1073741820 + k + 1 : Nat)) := below_cell hbk (hce 7 (by decide))
                have c8 : wr.cell? ⟨g, k * 12 + 8, none⟩ = some (.int .i64 0) := below_cell hbk (hce 8 (by decide))
                have c9 : wr.cell? ⟨g, k * 12 + 9, none⟩ = some (.int .i64 0) := below_cell hbk (hce 9 (by decide))
                have c10 : wr.cell? ⟨g, k * 12 + 10, none⟩ = some (.bool false) := below_cell hbk (hce 10 (by decide))
                have c11 : wr.cell? ⟨g, k * 12 + 11, none⟩ = some (.int .i64 0) := below_cell hbk (hce 11 (by decide))
                have i1 : (0 : Int) ≤ (k : Int) := by omega
                have i2 : (k : Int) < (K : Int) := by omega
                clear hbk hce
                go_wp2
                exact ⟨⟨k + 1, by first | rfl | simp, by omega, HBK.out.alloc HBK.out.size _⟩, by simp [intOf]; omega⟩
              · obtain rfl : k = K := by omega
                have hdk : decide ((k : Int) < (k : Int)) = false := by simp
                have hq : ((k : Int) == 3) = true := by have := KE.out; simp; omega
                clear hbk
                go_wp2
                go_ret
                exact ⟨rfl, HB7.out.trans (HBK.out.mono HB7.out.size)⟩
          · skip
            have hd0 : decide ((j : Int) < (j : Int)) = false := by simp
            have HB2 := Go.Lib.hid hbw
            have hlen : (tickN (min j 3) S1).log = (List.range (min j 3)).map fun i => tickEv (1073741820 + i + 1) := by rw [tickN_log, HF.out.2.2.2, List.nil_append, HF.out.1]
            have hll := log_list hg (by rw [hlen, List.length_map, List.length_range]; omega)
            rw [hlen, List.length_map, List.length_range] at hll
            have HLL := Go.Lib.hid hll
            have HG2 := Go.Lib.hid hg
            have hK2 : min j 3 < 50 := by omega
            obtain ⟨K, hKe⟩ : ∃ K, K = min j 3 := ⟨_, rfl⟩
            have KE := Go.Lib.hid hKe
            rw [← hKe] at hK2 HLL
            clear hg hbw hold hlen hll hgm HF hKe
            go_wp2_with (first
              | (go_at_call 14; refine (core_log HG2.out).mono ?_; rintro e wr ⟨rfl, rfl⟩)
              | fail)
            refine HLL.out.mono ?_
            rintro e w7 ⟨v, rfl, hown, hb7⟩
            have HB7 := Go.Lib.hid (HB2.out.trans (hb7.mono HB2.out.size))
            obtain ⟨a, cap, hv⟩ := own_form hown
            have hcl : ∀ k : Nat, k < K → ∃ g, a = some ⟨g, 0, none⟩ ∧ ∀ t, t < 12 → w7.cell? ⟨g, k * 12 + t, none⟩ = ((tickEv (1073741820 + k + 1)).cells)[t]? := by
              intro k hk
              subst hv
              exact tick_cells hown k hk
            have HCL := Go.Lib.hid hcl
            subst hv
            clear hown hb7 hcl HLL HG2 HB2
            go_wp2
            go_loopw [14, 15, 73] (fun _ _ c wr => ∃ k : Nat, c = .int .i64 k ∧ k ≤ K ∧ Below w7.heap.size w7 wr) (fun _ _ c _ => K - (intOf c).toNat)
            case atStart => exact ⟨0, rfl, Nat.zero_le _, Below.refl _ _⟩
            case round =>
              obtain ⟨k, rfl, hk, hbk⟩ := hrel
              have HBK := Go.Lib.hid hbk
              by_cases hkK : k < K
              · have hdk : decide ((k : Int) < (K : Int)) = true := by simp; omega
                obtain ⟨g, rfl, hce⟩ := HCL.out k hkK
                have c0 : wr.cell? ⟨g, k * 12, none⟩ = some (.int .i64 1) := below_cell hbk (hce 0 (by decide))
                have c1 : wr.cell? ⟨g, k * 12 + 1, none⟩ = some (.int .i64 0) := below_cell hbk (hce 1 (by decide))
                have c2 : wr.cell? ⟨g, k * 12 + 2, none⟩ = some (.int .i64 0) := below_cell hbk (hce 2 (by decide))
                have c3 : wr.cell? ⟨g, k * 12 + 3, none⟩ = some (.int .i64 0) := below_cell hbk (hce 3 (by decide))
                have c4 : wr.cell? ⟨g, k * 12 + 4, none⟩ = some (.int .i64 0) := below_cell hbk (hce 4 (by decide))
                have c5 : wr.cell? ⟨g, k * 12 + 5, none⟩ = some (.int .i64 0) := below_cell hbk (hce 5 (by decide))
                have c6 : wr.cell? ⟨g, k * 12 + 6, none⟩ = some (.int .i64 0) := below_cell hbk (hce 6 (by decide))
                have c7 : wr.cell? ⟨g, k * 12 + 7, none⟩ = some (.int .i64 (1073741820 + k + 1 : Nat)) := below_cell hbk (hce 7 (by decide))
                have c8 : wr.cell? ⟨g, k * 12 + 8, none⟩ = some (.int .i64 0) := below_cell hbk (hce 8 (by decide))
                have c9 : wr.cell? ⟨g, k * 12 + 9, none⟩ = some (.int .i64 0) := below_cell hbk (hce 9 (by decide))
                have c10 : wr.cell? ⟨g, k * 12 + 10, none⟩ = some (.bool false) := below_cell hbk (hce 10 (by decide))
                have c11 : wr.cell? ⟨g, k * 12 + 11, none⟩ = some (.int .i64 0) := below_cell hbk (hce 11 (by decide))
                have i1 : (0 : Int) ≤ (k : Int) := by omega
                have i2 : (k : Int) < (K : Int) := by omega
                clear hbk hce
                go_wp2
                exact ⟨⟨k + 1, by first | rfl | simp, by omega, HBK.out.alloc HBK.out.size _⟩, by simp [intOf]; omega⟩
              · obtain rfl : k = K := by omega
                have hdk : decide ((k : Int) < (k : Int)) = false := by simp
                have hq : ((k : Int) == (j : Int)) = true := by have := KE.out; simp; omega
                clear hbk
                go_wp2
                go_ret
                exact ⟨rfl, HB7.out.trans (HBK.out.mono HB7.out.size)⟩

    | false =>
      have HF : Hid ((S0 E.cf).m 0 = 0 ∧ 0 < (S0 E.cf).n ∧ (S0 E.cf).cnt ≤ 1 ∧ (S0 E.cf).log = []) := ⟨hF.out.1, hF.out.2, Nat.zero_le _, rfl⟩
      have HG1 := HG
      have HB1 := HB3
      have HOLD1 := HOLD
      have L1eq : ∃ L1, L1 = L := ⟨L, rfl⟩
      clear hF
      generalize S0 E.cf = S1 at *
      obtain ⟨L1, rfl⟩ := L1eq
      have hm0 : S1.m 0 = 0 := HF.out.1
      have HN := Go.Lib.hid (show 0 < S1.n from HF.out.2.1)
      go_wp2
      go_loopw [9, 10, 11, 40] (fun _ _ _ c wr => ∃ (j : Nat) (L2 : Lab), c = .int .i64 j ∧ j ≤ m ∧ Good E L2 (tickN (min j 1073741823) S1) wr ∧ Below w.heap.size w wr ∧ ∀ b, b < w.heap.size → L2 b = 0) (fun _ _ _ c _ => m - (intOf c).toNat)
      case atStart => exact ⟨0, L1, rfl, Nat.zero_le _, by rw [Nat.zero_min]; exact HG1.out, HB1.out, HOLD1.out⟩
      case round =>
        obtain ⟨j, L2, rfl, hj, hg, hbw, hold⟩ := hrel
        have hgm : (tickN (min j 1073741823) S1).m 0 = 0 + min j 1073741823 := by rw [tickN_m, hm0]
        clear HG1 HB1 HOLD1 hm0
        by_cases hjm : j < m
        · have hd0 : decide ((j : Int) < (m : Int)) = true := by simp; omega
          by_cases hlt : j < 1073741823
          · rw [Nat.min_eq_left (Nat.le_of_lt hlt)] at hg hgm
            have hTK := core_tick hg (by rw [tickN_n]; exact HN.out) (by rw [hgm]; omega) (by rw [tickN_cnt]; have := HF.out.2.2.1; omega) (by rw [tickN_log, HF.out.2.2.2, List.nil_append, List.length_map, List.length_range]; omega)
            have HTK := Go.Lib.hid hTK
            have HB2 := Go.Lib.hid hbw
            have HO2 := Go.Lib.hid hold
            have HGM := Go.Lib.hid hgm
            have v0 : (j : Int) < 1073741823 := by omega
            obtain ⟨v1, v2, v3, v4, v5⟩ := tk_vals (a := (j : Int)) (by omega) v0
            clear hg hbw hold hTK hgm
            go_wp2_with fail
            refine HTK.out.mono ?_
            rintro e w5 ⟨L3, rfl, hg3, hs3⟩
            have hck := core_clock hg3 (by show 0 < (tickN j S1).n; rw [tickN_n]; exact HN.out) (by show (tickN j S1).m 0 + 1 < _; rw [HGM.out]; omega)
            have hcv : ((((tickN j S1).tick.m 0 : Nat) : Nat) : Int) = (j : Int) + 1 := by show ((((tickN j S1).m 0 + 1 : Nat)) : Int) = _; rw [HGM.out]; omega
            rw [hcv] at hck
            have HCK := Go.Lib.hid hck
            have HG3 := Go.Lib.hid hg3
            have HB5 := Go.Lib.hid (hs3.below_old HB2.out (Nat.le_refl _) HO2.out)
            have HO5 : Hid (∀ b, b < w.heap.size → L3 b = 0) := fun b hlt => (hs3.lab b (Nat.lt_of_lt_of_le hlt HB2.out.size)).trans (HO2.out b hlt)
            clear hck hg3 hs3 hcv HGM HTK
            go_wp2_with fail
            refine HCK.out.mono ?_
            rintro e w6 ⟨rfl, hb6⟩
            have HB6 := Go.Lib.hid hb6
            clear hb6
            go_wp2
            refine ⟨⟨j + 1, L3, by first | rfl | simp, by omega, by rw [Nat.min_eq_left (by omega)]; exact HG3.out.below HB6.out, HB5.out.trans (HB6.out.mono HB5.out.size), HO5.out⟩, by simp [intOf]; omega⟩
          · exact absurd hlt (by omega)
        · obtain rfl : j = m := by omega
          have hd0 : decide ((j : Int) < (j : Int)) = false := by simp
          have HB2 := Go.Lib.hid hbw
          have hlen : (tickN (min j 1073741823) S1).log = (List.range (min j 1073741823)).map fun i => tickEv (0 + i + 1) := by rw [tickN_log, HF.out.2.2.2, List.nil_append, HF.out.1]
          have hll := log_list hg (by rw [hlen, List.length_map, List.length_range]; omega)
          rw [hlen, List.length_map, List.length_range] at hll
          have HLL := Go.Lib.hid hll
          have HG2 := Go.Lib.hid hg
          have hK2 : min j 1073741823 < 50 := by omega
          obtain ⟨K, hKe⟩ : ∃ K, K = min j 1073741823 := ⟨_, rfl⟩
          have KE := Go.Lib.hid hKe
          rw [← hKe] at hK2 HLL
          clear hg hbw hold hlen hll hgm HF hKe
          go_wp2_with (first
            | (go_at_call 14; refine (core_log HG2.out).mono ?_; rintro e wr ⟨rfl, rfl⟩)
            | fail)
          refine HLL.out.mono ?_
          rintro e w7 ⟨v, rfl, hown, hb7⟩
          have HB7 := Go.Lib.hid (HB2.out.trans (hb7.mono HB2.out.size))
          obtain ⟨a, cap, hv⟩ := own_form hown
          have hcl : ∀ k : Nat, k < K → ∃ g, a = some ⟨g, 0, none⟩ ∧ ∀ t, t < 12 → w7.cell? ⟨g, k * 12 + t, none⟩ = ((tickEv (0 + k + 1)).cells)[t]? := by
            intro k hk
            subst hv
            exact tick_cells hown k hk
          have HCL := Go.Lib.hid hcl
          subst hv
          clear hown hb7 hcl HLL HG2 HB2
          go_wp2
          go_loopw [14, 15, 73] (fun _ _ c wr => ∃ k : Nat, c = .int .i64 k ∧ k ≤ K ∧ Below w7.heap.size w7 wr) (fun _ _ c _ => K - (intOf c).toNat)
          case atStart => exact ⟨0, rfl, Nat.zero_le _, Below.refl _ _⟩
          case round =>
            obtain ⟨k, rfl, hk, hbk⟩ := hrel
            have HBK := Go.Lib.hid hbk
            by_cases hkK : k < K
            · have hdk : decide ((k : Int) < (K : Int)) = true := by simp; omega
              obtain ⟨g, rfl, hce⟩ := HCL.out k hkK
              have c0 : wr.cell? ⟨g, k * 12, none⟩ = some (.int .i64 1) := below_cell hbk (hce 0 (by decide))
              have c1 : wr.cell? ⟨g, k * 12 + 1, none⟩ = some (.int .i64 0) := below_cell hbk (hce 1 (by decide))
              have c2 : wr.cell? ⟨g, k * 12 + 2, none⟩ = some (.int .i64 0) := below_cell hbk (hce 2 (by decide))
              have c3 : wr.cell? ⟨g, k * 12 + 3, none⟩ = some (.int .i64 0) := below_cell hbk (hce 3 (by decide))
              have c4 : wr.cell? ⟨g, k * 12 + 4, none⟩ = some (.int .i64 0) := below_cell hbk (hce 4 (by decide))
              have c5 : wr.cell? ⟨g, k * 12 + 5, none⟩ = some (.int .i64 0) := below_cell hbk (hce 5 (by decide))
              have c6 : wr.cell? ⟨g, k * 12 + 6, none⟩ = some (.int .i64 0) := below_cell hbk (hce 6 (by decide))
              have c7 : wr.cell? ⟨g, k * 12 + 7, none⟩ = some (.int .i64 (0 + k + 1 : Nat)) := below_cell hbk (hce 7 (by decide))
              have c8 : wr.cell? ⟨g, k * 12 + 8, none⟩ = some (.int .i64 0) := below_cell hbk (hce 8 (by decide))
              have c9 : wr.cell? ⟨g, k * 12 + 9, none⟩ = some (.int .i64 0) := below_cell hbk (hce 9 (by decide))
              have c10 : wr.cell? ⟨g, k * 12 + 10, none⟩ = some (.bool false) := below_cell hbk (hce 10 (by decide))
              have c11 : wr.cell? ⟨g, k * 12 + 11, none⟩ = some (.int .i64 0) := below_cell hbk (hce 11 (by decide))
              have i1 : (0 : Int) ≤ (k : Int) := by omega
              have i2 : (k : Int) < (K : Int) := by omega
              clear hbk hce
              go_wp2
              exact ⟨⟨k + 1, by first | rfl | simp, by omega, HBK.out.alloc HBK.out.size _⟩, by simp [intOf]; omega⟩
            · obtain rfl : k = K := by omega
              have hdk : decide ((k : Int) < (k : Int)) = false := by simp
              have hq : ((k : Int) == (j : Int)) = true := by have := KE.out; simp; omega
              clear hbk
              go_wp2
              go_ret
              exact ⟨rfl, HB7.out.trans (HBK.out.mono HB7.out.size)⟩

  · rw [decide_eq_false hsm]
    go_wp2_with fail
    refine (law15_speaks _).mono ?_
    rintro e w9 ⟨rfl, hb9⟩
    replace hb := hb.trans (hb9.mono hb.size)
    clear hb9
    go_wp2
    go_ret
    exact ⟨rfl, hb⟩
end Go.Proofs.Ytlbjjooiiikmjaa

