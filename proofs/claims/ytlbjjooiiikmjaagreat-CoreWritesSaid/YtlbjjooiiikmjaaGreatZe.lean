/- The law CoreWrites. -/
import Derived.Test.YtlbjjooiiikmjaaGreatZd
namespace Go.Proofs.YtlbjjooiiikmjaaGreat
open Go.RowKit
set_option maxRecDepth 100000
set_option linter.unusedVariables false

theorem St.put_at (S : St) (k v : Nat) (h : k < S.n) : S.put (k : Int) v = { S with cnt := S.cnt + 1, m := fun j => if j = k then v else S.m j } := by
  unfold St.put
  rw [if_pos (show S.has (k : Int) by unfold St.has; omega)]
  simp
/-- What there is when a ticket is written. -/
def writeS (c : Cf) (t kw u : Nat) : St := ((S0 c).put (c.key t) kw).put (c.time t) u
theorem writeS_m (c : Cf) (t kw u : Nat) (h : t < c.tickets) : (writeS c t kw u).m (c.ticketsAt + 3 * t) = kw ∧ (writeS c t kw u).m (c.ticketsAt + 3 * t + 1) = u ∧ (writeS c t kw u).n = c.size := by
  have k1 := key_at c t h
  have k2 := time_at c t h
  have k3 := key_lt c t h
  unfold writeS
  have n0 : (S0 c).n = c.size := rfl
  rw [k1, k2, St.put_at ((S0 c).put _ kw) _ u (by rw [St.put_n, n0]; omega), St.put_at (S0 c) _ kw (by rw [n0]; omega)]
  refine ⟨?_, ?_, rfl⟩
  · show (if _ = _ then _ else if _ = _ then _ else _) = _
    rw [if_neg (by omega), if_pos rfl]
  · show (if _ = _ then _ else _) = _
    rw [if_pos rfl]
theorem writeS_get (c : Cf) (t kw u : Nat) (h : t < c.tickets) : (writeS c t kw u).get (c.key t) = kw ∧ (writeS c t kw u).get (c.time t) = u := by
  obtain ⟨h1, h2, h3⟩ := writeS_m c t kw u h
  have k3 := key_lt c t h
  constructor
  · unfold St.get
    rw [key_at c t h, if_pos (by unfold St.has; rw [h3]; omega)]
    exact h1
  · unfold St.get
    rw [time_at c t h, if_pos (by unfold St.has; rw [h3]; omega)]
    exact h2
theorem writeS_cnt (c : Cf) (t kw u : Nat) : (writeS c t kw u).cnt ≤ 2 := by
  have h1 := St.put_cnt (S0 c) (c.key t) kw
  have h2 := St.put_cnt ((S0 c).put (c.key t) kw) (c.time t) u
  have h0 : (S0 c).cnt = 0 := rfl
  unfold writeS
  rw [h0] at h1
  exact Nat.le_trans h2 (Nat.succ_le_succ h1)
theorem writeS_log (c : Cf) (t kw u : Nat) : (writeS c t kw u).log = [] := by
  unfold writeS
  rw [St.put_log, St.put_log]
  rfl
theorem writeS_reg (c : Cf) (t kw u b : Nat) (v v' : Value) (i j : Int) : (((((writeS c t kw u).newR b v).touch i).touch j).setR b v').reg = [(b, v')] := by
  unfold St.setR
  dsimp only
  rw [St.touch_reg, St.touch_reg]
  unfold St.newR writeS
  dsimp only
  rw [put_reg0]
  simp
theorem tp0 {t l : Nat} (h : l = 0) : ¬ TP t l := by unfold TP; omega
theorem okI_slack {x : Nat → Int} (h : okI x) : 0 ≤ x 5 := by
  exact (h 5 (by decide)).1
theorem toI_toU {u : Int} (h0 : 0 ≤ u) (h1 : u ≤ 2147483647) : toI (toU u) = u ∧ ((toU u : Nat) : Int) = u := by
  unfold toI toU wrap64
  constructor <;> omega

theorem writeS_read {c : Cf} {t kw : Nat} {u : Int} {w W : World} (h : t < c.tickets) (hu : ((toU u : Nat) : Int) = u) (hall : AllAt w (writeS c t kw (toU u)).n (writeS c t kw (toU u)).m (writeS c t kw (toU u)).n W) :
    W.cell? ⟨w.heap.size, c.ticketsAt + 3 * t, none⟩ = some (.int .u64 (kw : Nat)) ∧ W.cell? ⟨w.heap.size, c.ticketsAt + 3 * t + 1, none⟩ = some (.int .u64 u) ∧
    ((c.ticketsAt + 3 * t : Nat) : Int) < ((writeS c t kw (toU u)).n : Int) ∧ ((c.ticketsAt + 3 * t + 1 : Nat) : Int) < ((writeS c t kw (toU u)).n : Int) := by
  obtain ⟨h1, h2, h3⟩ := writeS_m c t kw (toU u) h
  have hkl := key_lt c t h
  have l1 : c.ticketsAt + 3 * t < (writeS c t kw (toU u)).n := by rw [h3]; omega
  have l2 : c.ticketsAt + 3 * t + 1 < (writeS c t kw (toU u)).n := by rw [h3]; omega
  have a1 := hall.c0 _ l1
  rw [if_pos l1, h1] at a1
  have a2 := hall.c0 _ l2
  rw [if_pos l2, h2, hu] at a2
  exact ⟨a1, a2, Int.ofNat_lt.2 l1, Int.ofNat_lt.2 l2⟩
theorem wrap_u {u : Int} (h : 0 ≤ u ∧ u ≤ 2147483647) : IntKind.u64.wrap u = u := IntWalk.u64_in _ (by omega)
/-- What the walk is not told. -/
structure WFacts (c : Cf) (x5 d u : Int) (gn vn nn kw tn : Nat) : Prop where
  hu : u = upI d x5
  hu2 : upI d (c.slack : Int) = u
  hkw : keyWord gn vn nn = kw
  hkp : part kw 0 16 = nn ∧ part kw 16 16 = vn ∧ part kw 32 32 = gn
  hub : 0 ≤ u ∧ u ≤ 2147483647
  htk : tn < c.tickets
set_option maxHeartbeats 8000000 in
theorem law15_CoreWrites (x : Nat → Int) (t gen version node d : Int) (hg : -9223372036854775808 ≤ gen ∧ gen < 9223372036854775808) (hv : -9223372036854775808 ≤ version ∧ version < 9223372036854775808) (hn : -9223372036854775808 ≤ node ∧ node < 9223372036854775808) (w : World) :
    Calls Tryz.prog 4 #[.agg #[.int .i64 (x 0), .int .i64 (x 1), .int .i64 (x 2), .int .i64 (x 3), .int .i64 (x 4), .int .i64 (x 5), .int .i64 (x 6), .int .i64 (x 7), .int .i64 (x 8), .int .i64 (x 9), .int .i64 (x 10), .int .i64 (x 11), .int .i64 (x 12)], .int .i64 t, .int .i64 gen, .int .i64 version, .int .i64 node, .int .i64 d] w fun e w' => e = .returned (.bool true) ∧ Below w.heap.size w w' := by
  have hb : Below w.heap.size w ((w.alloc (.cells #[.int .i64 (x 0), .int .i64 (x 1), .int .i64 (x 2), .int .i64 (x 3), .int .i64 (x 4), .int .i64 (x 5), .int .i64 (x 6), .int .i64 (x 7), .int .i64 (x 8), .int .i64 (x 9), .int .i64 (x 10), .int .i64 (x 11), .int .i64 (x 12)] 23)).alloc (.cells #[.int .i64 d] 3)) := ((Below.refl _ _).alloc (Nat.le_refl _) _).alloc (by simp) _
  have e0 : ((w.alloc (.cells #[.int .i64 (x 0), .int .i64 (x 1), .int .i64 (x 2), .int .i64 (x 3), .int .i64 (x 4), .int .i64 (x 5), .int .i64 (x 6), .int .i64 (x 7), .int .i64 (x 8), .int .i64 (x 9), .int .i64 (x 10), .int .i64 (x 11), .int .i64 (x 12)] 23)).alloc (.cells #[.int .i64 d] 3)).cell? ⟨w.heap.size, 0, none⟩ = some (.int .i64 (x 0)) := by go_simp
  have e1 : ((w.alloc (.cells #[.int .i64 (x 0), .int .i64 (x 1), .int .i64 (x 2), .int .i64 (x 3), .int .i64 (x 4), .int .i64 (x 5), .int .i64 (x 6), .int .i64 (x 7), .int .i64 (x 8), .int .i64 (x 9), .int .i64 (x 10), .int .i64 (x 11), .int .i64 (x 12)] 23)).alloc (.cells #[.int .i64 d] 3)).cell? ⟨w.heap.size, 1, none⟩ = some (.int .i64 (x 1)) := by go_simp
  have e2 : ((w.alloc (.cells #[.int .i64 (x 0), .int .i64 (x 1), .int .i64 (x 2), .int .i64 (x 3), .int .i64 (x 4), .int .i64 (x 5), .int .i64 (x 6), .int .i64 (x 7), .int .i64 (x 8), .int .i64 (x 9), .int .i64 (x 10), .int .i64 (x 11), .int .i64 (x 12)] 23)).alloc (.cells #[.int .i64 d] 3)).cell? ⟨w.heap.size, 2, none⟩ = some (.int .i64 (x 2)) := by go_simp
  have e3 : ((w.alloc (.cells #[.int .i64 (x 0), .int .i64 (x 1), .int .i64 (x 2), .int .i64 (x 3), .int .i64 (x 4), .int .i64 (x 5), .int .i64 (x 6), .int .i64 (x 7), .int .i64 (x 8), .int .i64 (x 9), .int .i64 (x 10), .int .i64 (x 11), .int .i64 (x 12)] 23)).alloc (.cells #[.int .i64 d] 3)).cell? ⟨w.heap.size, 3, none⟩ = some (.int .i64 (x 3)) := by go_simp
  have e4 : ((w.alloc (.cells #[.int .i64 (x 0), .int .i64 (x 1), .int .i64 (x 2), .int .i64 (x 3), .int .i64 (x 4), .int .i64 (x 5), .int .i64 (x 6), .int .i64 (x 7), .int .i64 (x 8), .int .i64 (x 9), .int .i64 (x 10), .int .i64 (x 11), .int .i64 (x 12)] 23)).alloc (.cells #[.int .i64 d] 3)).cell? ⟨w.heap.size, 4, none⟩ = some (.int .i64 (x 4)) := by go_simp
  have e5 : ((w.alloc (.cells #[.int .i64 (x 0), .int .i64 (x 1), .int .i64 (x 2), .int .i64 (x 3), .int .i64 (x 4), .int .i64 (x 5), .int .i64 (x 6), .int .i64 (x 7), .int .i64 (x 8), .int .i64 (x 9), .int .i64 (x 10), .int .i64 (x 11), .int .i64 (x 12)] 23)).alloc (.cells #[.int .i64 d] 3)).cell? ⟨w.heap.size, 5, none⟩ = some (.int .i64 (x 5)) := by go_simp
  have e6 : ((w.alloc (.cells #[.int .i64 (x 0), .int .i64 (x 1), .int .i64 (x 2), .int .i64 (x 3), .int .i64 (x 4), .int .i64 (x 5), .int .i64 (x 6), .int .i64 (x 7), .int .i64 (x 8), .int .i64 (x 9), .int .i64 (x 10), .int .i64 (x 11), .int .i64 (x 12)] 23)).alloc (.cells #[.int .i64 d] 3)).cell? ⟨w.heap.size, 6, none⟩ = some (.int .i64 (x 6)) := by go_simp
  have e7 : ((w.alloc (.cells #[.int .i64 (x 0), .int .i64 (x 1), .int .i64 (x 2), .int .i64 (x 3), .int .i64 (x 4), .int .i64 (x 5), .int .i64 (x 6), .int .i64 (x 7), .int .i64 (x 8), .int .i64 (x 9), .int .i64 (x 10), .int .i64 (x 11), .int .i64 (x 12)] 23)).alloc (.cells #[.int .i64 d] 3)).cell? ⟨w.heap.size, 7, none⟩ = some (.int .i64 (x 7)) := by go_simp
  have e8 : ((w.alloc (.cells #[.int .i64 (x 0), .int .i64 (x 1), .int .i64 (x 2), .int .i64 (x 3), .int .i64 (x 4), .int .i64 (x 5), .int .i64 (x 6), .int .i64 (x 7), .int .i64 (x 8), .int .i64 (x 9), .int .i64 (x 10), .int .i64 (x 11), .int .i64 (x 12)] 23)).alloc (.cells #[.int .i64 d] 3)).cell? ⟨w.heap.size, 8, none⟩ = some (.int .i64 (x 8)) := by go_simp
  have e9 : ((w.alloc (.cells #[.int .i64 (x 0), .int .i64 (x 1), .int .i64 (x 2), .int .i64 (x 3), .int .i64 (x 4), .int .i64 (x 5), .int .i64 (x 6), .int .i64 (x 7), .int .i64 (x 8), .int .i64 (x 9), .int .i64 (x 10), .int .i64 (x 11), .int .i64 (x 12)] 23)).alloc (.cells #[.int .i64 d] 3)).cell? ⟨w.heap.size, 9, none⟩ = some (.int .i64 (x 9)) := by go_simp
  have e10 : ((w.alloc (.cells #[.int .i64 (x 0), .int .i64 (x 1), .int .i64 (x 2), .int .i64 (x 3), .int .i64 (x 4), .int .i64 (x 5), .int .i64 (x 6), .int .i64 (x 7), .int .i64 (x 8), .int .i64 (x 9), .int .i64 (x 10), .int .i64 (x 11), .int .i64 (x 12)] 23)).alloc (.cells #[.int .i64 d] 3)).cell? ⟨w.heap.size, 10, none⟩ = some (.int .i64 (x 10)) := by go_simp
  have e11 : ((w.alloc (.cells #[.int .i64 (x 0), .int .i64 (x 1), .int .i64 (x 2), .int .i64 (x 3), .int .i64 (x 4), .int .i64 (x 5), .int .i64 (x 6), .int .i64 (x 7), .int .i64 (x 8), .int .i64 (x 9), .int .i64 (x 10), .int .i64 (x 11), .int .i64 (x 12)] 23)).alloc (.cells #[.int .i64 d] 3)).cell? ⟨w.heap.size, 11, none⟩ = some (.int .i64 (x 11)) := by go_simp
  have e12 : ((w.alloc (.cells #[.int .i64 (x 0), .int .i64 (x 1), .int .i64 (x 2), .int .i64 (x 3), .int .i64 (x 4), .int .i64 (x 5), .int .i64 (x 6), .int .i64 (x 7), .int .i64 (x 8), .int .i64 (x 9), .int .i64 (x 10), .int .i64 (x 11), .int .i64 (x 12)] 23)).alloc (.cells #[.int .i64 d] 3)).cell? ⟨w.heap.size, 12, none⟩ = some (.int .i64 (x 12)) := by go_simp
  have ed : ((w.alloc (.cells #[.int .i64 (x 0), .int .i64 (x 1), .int .i64 (x 2), .int .i64 (x 3), .int .i64 (x 4), .int .i64 (x 5), .int .i64 (x 6), .int .i64 (x 7), .int .i64 (x 8), .int .i64 (x 9), .int .i64 (x 10), .int .i64 (x 11), .int .i64 (x 12)] 23)).alloc (.cells #[.int .i64 d] 3)).cell? ⟨w.heap.size + 1, 0, none⟩ = some (.int .i64 d) := by go_simp
  have HS := Go.Lib.hid (law15_Small x)
  have HB := Go.Lib.hid (law15_Begin x)
  go_enter Tryz.func4, Tryz.ntmps4
  go_wp2_with fail
  refine (law15_speaks _).mono ?_
  rintro e w1 ⟨rfl, hb1⟩
  replace e0 := below_cell hb1 e0
  replace e1 := below_cell hb1 e1
  replace e2 := below_cell hb1 e2
  replace e3 := below_cell hb1 e3
  replace e4 := below_cell hb1 e4
  replace e5 := below_cell hb1 e5
  replace e6 := below_cell hb1 e6
  replace e7 := below_cell hb1 e7
  replace e8 := below_cell hb1 e8
  replace e9 := below_cell hb1 e9
  replace e10 := below_cell hb1 e10
  replace e11 := below_cell hb1 e11
  replace e12 := below_cell hb1 e12
  replace ed := below_cell hb1 ed
  replace hb := hb.trans (hb1.mono hb.size)
  clear hb1
  go_wp2_with fail
  refine (HS.out _).mono ?_
  rintro e w2 ⟨rfl, hb1⟩
  replace e0 := below_cell hb1 e0
  replace e1 := below_cell hb1 e1
  replace e2 := below_cell hb1 e2
  replace e3 := below_cell hb1 e3
  replace e4 := below_cell hb1 e4
  replace e5 := below_cell hb1 e5
  replace e6 := below_cell hb1 e6
  replace e7 := below_cell hb1 e7
  replace e8 := below_cell hb1 e8
  replace e9 := below_cell hb1 e9
  replace e10 := below_cell hb1 e10
  replace e11 := below_cell hb1 e11
  replace e12 := below_cell hb1 e12
  replace ed := below_cell hb1 ed
  replace hb := hb.trans (hb1.mono hb.size)
  clear hb1 HS
  by_cases hsm : smallI x
  · rw [decide_eq_true hsm]
    by_cases ht : 0 ≤ t ∧ t < x 4
    · have HI1 := Go.Lib.hid (ref_In t (x 4))
      rw [decide_eq_true ht] at HI1
      go_wp2_with fail
      refine (HI1.out _).mono ?_
      rintro e wa ⟨rfl, rfl⟩
      clear HI1
      go_wp2_with fail
      refine (ref_Widths2 _).mono ?_
      rintro e w3 ⟨rfl, rfl⟩
      go_wp2_with fail
      have hbb : Below wa.heap.size wa ((wa.alloc (.cells #[.int .i64 gen, .int .i64 version, .int .i64 node] 3)).alloc (.cells #[.int .i64 32, .int .i64 16, .int .i64 16] 3)) := ((Below.refl _ _).alloc (Nat.le_refl _) _).alloc (by simp) _
      replace hb := hb.trans (hbb.mono hb.size)
      have g0 : ((wa.alloc (.cells #[.int .i64 gen, .int .i64 version, .int .i64 node] 3)).alloc (.cells #[.int .i64 32, .int .i64 16, .int .i64 16] 3)).cell? ⟨wa.heap.size, 0, none⟩ = some (.int .i64 gen) := by go_simp
      have g1 : ((wa.alloc (.cells #[.int .i64 gen, .int .i64 version, .int .i64 node] 3)).alloc (.cells #[.int .i64 32, .int .i64 16, .int .i64 16] 3)).cell? ⟨wa.heap.size, 1, none⟩ = some (.int .i64 version) := by go_simp
      have g2 : ((wa.alloc (.cells #[.int .i64 gen, .int .i64 version, .int .i64 node] 3)).alloc (.cells #[.int .i64 32, .int .i64 16, .int .i64 16] 3)).cell? ⟨wa.heap.size, 2, none⟩ = some (.int .i64 node) := by go_simp
      have p0 : ((wa.alloc (.cells #[.int .i64 gen, .int .i64 version, .int .i64 node] 3)).alloc (.cells #[.int .i64 32, .int .i64 16, .int .i64 16] 3)).cell? ⟨wa.heap.size + 1, 0, none⟩ = some (.int .i64 32) := by go_simp
      have p1 : ((wa.alloc (.cells #[.int .i64 gen, .int .i64 version, .int .i64 node] 3)).alloc (.cells #[.int .i64 32, .int .i64 16, .int .i64 16] 3)).cell? ⟨wa.heap.size + 1, 1, none⟩ = some (.int .i64 16) := by go_simp
      have p2 : ((wa.alloc (.cells #[.int .i64 gen, .int .i64 version, .int .i64 node] 3)).alloc (.cells #[.int .i64 32, .int .i64 16, .int .i64 16] 3)).cell? ⟨wa.heap.size + 1, 2, none⟩ = some (.int .i64 16) := by go_simp
      replace e0 := below_cell hbb e0
      replace e1 := below_cell hbb e1
      replace e2 := below_cell hbb e2
      replace e3 := below_cell hbb e3
      replace e4 := below_cell hbb e4
      replace e5 := below_cell hbb e5
      replace e6 := below_cell hbb e6
      replace e7 := below_cell hbb e7
      replace e8 := below_cell hbb e8
      replace e9 := below_cell hbb e9
      replace e10 := below_cell hbb e10
      replace e11 := below_cell hbb e11
      replace e12 := below_cell hbb e12
      replace ed := below_cell hbb ed
      generalize ((wa.alloc (.cells #[.int .i64 gen, .int .i64 version, .int .i64 node] 3)).alloc (.cells #[.int .i64 32, .int .i64 16, .int .i64 16] 3)) = w4 at *
      have HBE := Go.Lib.hid (HB.out hsm)
      by_cases hk : keyI gen version node
      · obtain ⟨gn, rfl⟩ : ∃ n : Nat, gen = (n : Int) := ⟨gen.toNat, by have := hk.1; omega⟩
        obtain ⟨vn, rfl⟩ : ∃ n : Nat, version = (n : Int) := ⟨version.toNat, by have := hk.2.1; omega⟩
        obtain ⟨nn, rfl⟩ : ∃ n : Nat, node = (n : Int) := ⟨node.toNat, by have := hk.2.2; omega⟩
        obtain ⟨tn, rfl⟩ : ∃ n : Nat, t = (n : Int) := ⟨t.toNat, by omega⟩
        have bg : gn < 4294967296 := by have := hk.1; omega
        have bv : vn < 65536 := by have := hk.2.1; omega
        have bn : nn < 65536 := by have := hk.2.2; omega
        have hkp := key_parts3 bg bv bn
        have hkw := keyWord_ok bg bv bn
        have HW := Go.Lib.hid (ref_WordKey gn vn nn bg bv bn _ _ 3 3 w4 g0 g1 g2 p0 p1 p2)
        generalize (gn * 65536 + vn) * 65536 + nn = kw at *
        refine HW.out.mono ?_
        rintro e w5 ⟨rfl, hb5⟩
        replace e0 := below_cell hb5 e0
        replace e1 := below_cell hb5 e1
        replace e2 := below_cell hb5 e2
        replace e3 := below_cell hb5 e3
        replace e4 := below_cell hb5 e4
        replace e5 := below_cell hb5 e5
        replace e6 := below_cell hb5 e6
        replace e7 := below_cell hb5 e7
        replace e8 := below_cell hb5 e8
        replace e9 := below_cell hb5 e9
        replace e10 := below_cell hb5 e10
        replace e11 := below_cell hb5 e11
        replace e12 := below_cell hb5 e12
        replace ed := below_cell hb5 ed
        replace hb := hb.trans (hb5.mono hb.size)
        clear hb5 HW g0 g1 g2 p0 p1 p2 hbb hg hv hn HB hk
        go_wp2_with fail
        refine (HBE.out _).mono ?_
        rintro e w7 ⟨E, L, w0, rfl, hb3, hborn⟩
        obtain ⟨hcf, hgood, hbl, hold, hnr, hek⟩ := hborn
        have hb0 := hb.trans (hb3.mono hb.size)
        have HB7 := Go.Lib.hid (hb0.trans (hbl.mono hb0.size))
        have HOLD : Hid (∀ b, b < w.heap.size → L b = 0) := fun b hlt => hold b (Nat.lt_of_lt_of_le hlt hb0.size)
        have hok : okI x := hsm.1
        have hx5 : 0 ≤ x 5 := okI_slack hok
        have htk : tn < (cfOf x).tickets := by show tn < (x 4).toNat; omega
        have hsl : ((cfOf x).slack : Int) = x 5 := by show (((x 5).toNat : Nat) : Int) = x 5; omega
        have hz : ∀ b, b ≤ w.heap.size + 1 → L b = 0 ∧ b < w7.heap.size := fun b hle => by
          have h1 := Nat.lt_of_lt_of_le (cell_lt ed) hb3.size
          have h2 := hbl.size
          dsimp only at h1
          exact ⟨hold b (by omega), by omega⟩
        have HZ := Go.Lib.hid hz
        replace e0 := below_cell hb3 e0
        replace e1 := below_cell hb3 e1
        replace e2 := below_cell hb3 e2
        replace e3 := below_cell hb3 e3
        replace e4 := below_cell hb3 e4
        replace e5 := below_cell hb3 e5
        replace e6 := below_cell hb3 e6
        replace e7 := below_cell hb3 e7
        replace e8 := below_cell hb3 e8
        replace e9 := below_cell hb3 e9
        replace e10 := below_cell hb3 e10
        replace e11 := below_cell hb3 e11
        replace e12 := below_cell hb3 e12
        replace ed := below_cell hb3 ed
        replace e0 := below_cell hbl e0
        replace e1 := below_cell hbl e1
        replace e2 := below_cell hbl e2
        replace e3 := below_cell hbl e3
        replace e4 := below_cell hbl e4
        replace e5 := below_cell hbl e5
        replace e6 := below_cell hbl e6
        replace e7 := below_cell hbl e7
        replace e8 := below_cell hbl e8
        replace e9 := below_cell hbl e9
        replace e10 := below_cell hbl e10
        replace e11 := below_cell hbl e11
        replace e12 := below_cell hbl e12
        replace ed := below_cell hbl ed
        rw [← hcf] at htk hgood hsl
        have HG := Go.Lib.hid hgood
        have hub := upI_nonneg d (x 5)
        obtain ⟨u, hu⟩ : ∃ u, u = upI d (x 5) := ⟨_, rfl⟩
        have hu2 : upI d (E.cf.slack : Int) = u := by rw [hsl, hu]
        rw [← hu] at hub
        have WF : WFacts E.cf (x 5) d u gn vn nn kw tn := ⟨hu, hu2, hkw, hkp, hub, htk⟩
        clear hu hsl hcf hgood hbl hold hnr hek hb0 hb3 hb HBE hx5 hz HOLD hu2 hkw hkp hub htk hok
        have hne1 : w.heap.size + 1 ≠ w7.heap.size := by have := cell_lt ed; dsimp only at this; omega
        have hne2 : w7.heap.size ≠ w.heap.size + 1 := Ne.symm hne1
        have hb8 : Below w7.heap.size w7 (w7.alloc (.cells #[.int .i64 gn, .int .i64 vn, .int .i64 nn] 54)) := (Below.refl _ _).alloc (Nat.le_refl _) _
        have q0 : (w7.alloc (.cells #[.int .i64 gn, .int .i64 vn, .int .i64 nn] 54)).cell? ⟨w7.heap.size, 0, none⟩ = some (.int .i64 gn) := by go_simp
        have q1 : (w7.alloc (.cells #[.int .i64 gn, .int .i64 vn, .int .i64 nn] 54)).cell? ⟨w7.heap.size, 1, none⟩ = some (.int .i64 vn) := by go_simp
        have q2 : (w7.alloc (.cells #[.int .i64 gn, .int .i64 vn, .int .i64 nn] 54)).cell? ⟨w7.heap.size, 2, none⟩ = some (.int .i64 nn) := by go_simp
        have hz : ∀ b, b ≤ w.heap.size + 1 ∨ b = w7.heap.size → L b = 0 ∧ b < (w7.alloc (.cells #[.int .i64 gn, .int .i64 vn, .int .i64 nn] 54)).heap.size := fun b hle => by
          rw [World.size_alloc]
          rcases hle with h | h
          · exact ⟨(HZ.out b h).1, Nat.lt_succ_of_lt (HZ.out b h).2⟩
          · subst h; exact ⟨HG.out.new _ (Nat.le_refl _), Nat.lt_succ_self _⟩
        have HZ8 := Go.Lib.hid hz
        replace e0 := below_cell hb8 e0
        replace e1 := below_cell hb8 e1
        replace e2 := below_cell hb8 e2
        replace e3 := below_cell hb8 e3
        replace e4 := below_cell hb8 e4
        replace e5 := below_cell hb8 e5
        replace e6 := below_cell hb8 e6
        replace e7 := below_cell hb8 e7
        replace e8 := below_cell hb8 e8
        replace e9 := below_cell hb8 e9
        replace e10 := below_cell hb8 e10
        replace e11 := below_cell hb8 e11
        replace e12 := below_cell hb8 e12
        replace ed := below_cell hb8 ed
        go_wp2_with fail
        have HG8 := Go.Lib.hid (HG.out.below hb8)
        have HB8 := Go.Lib.hid (HB7.out.trans (hb8.mono HB7.out.size))
        clear hb8 HG HB7 HZ hz
        generalize (w7.alloc (.cells #[.int .i64 gn, .int .i64 vn, .int .i64 nn] 54)) = w8 at *
        generalize w7.heap.size = kb at *
        refine (write_any (R := endR) (t := 0) (n := 1) (g := (gn : Int)) (v := (vn : Int)) (nd := (nn : Int)) endR_mono HG8.out (by omega) (by omega) (by omega) law15_writes1).mono ?_
        rintro e w9 ⟨v1, L9, rfl, hd9, hg9, hc9⟩
        have hz9 : ∀ b, b ≤ w.heap.size + 1 ∨ b = kb → L9 b = 0 ∧ b < w9.heap.size := fun b hle => ⟨(hd9.lab b (HZ8.out b hle).2).trans (HZ8.out b hle).1, Nat.lt_of_lt_of_le (HZ8.out b hle).2 hd9.size⟩
        have HZ9 := Go.Lib.hid hz9
        replace e0 := hd9.cell0 e0 (HZ8.out _ (.inl (Nat.le_succ _))).1
        replace e1 := hd9.cell0 e1 (HZ8.out _ (.inl (Nat.le_succ _))).1
        replace e2 := hd9.cell0 e2 (HZ8.out _ (.inl (Nat.le_succ _))).1
        replace e3 := hd9.cell0 e3 (HZ8.out _ (.inl (Nat.le_succ _))).1
        replace e4 := hd9.cell0 e4 (HZ8.out _ (.inl (Nat.le_succ _))).1
        replace e5 := hd9.cell0 e5 (HZ8.out _ (.inl (Nat.le_succ _))).1
        replace e6 := hd9.cell0 e6 (HZ8.out _ (.inl (Nat.le_succ _))).1
        replace e7 := hd9.cell0 e7 (HZ8.out _ (.inl (Nat.le_succ _))).1
        replace e8 := hd9.cell0 e8 (HZ8.out _ (.inl (Nat.le_succ _))).1
        replace e9 := hd9.cell0 e9 (HZ8.out _ (.inl (Nat.le_succ _))).1
        replace e10 := hd9.cell0 e10 (HZ8.out _ (.inl (Nat.le_succ _))).1
        replace e11 := hd9.cell0 e11 (HZ8.out _ (.inl (Nat.le_succ _))).1
        replace e12 := hd9.cell0 e12 (HZ8.out _ (.inl (Nat.le_succ _))).1
        replace ed := hd9.cell0 ed (HZ8.out _ (.inl (Nat.le_refl _))).1
        replace q0 := hd9.cell0 q0 (HZ8.out _ (.inr rfl)).1
        replace q1 := hd9.cell0 q1 (HZ8.out _ (.inr rfl)).1
        replace q2 := hd9.cell0 q2 (HZ8.out _ (.inr rfl)).1
        have HB9 := Go.Lib.hid (hd9.below_old HB8.out (Nat.le_refl _) (fun b hlt => (HZ8.out b (.inl (by omega))).1))
        have hrun := write_runs (cf := E.cf) (S := S0 E.cf) (t := (tn : Int)) (g := (gn : Int)) (v := (vn : Int)) (n := (nn : Int)) (d := d) (by show (0 : Nat) ≤ 1000000; decide) (by show (0 : Nat) ≤ 1000000; decide)
        rw [WF.hkw, WF.hu2] at hrun
        have HDO : Hid (Calls Tryz.prog 18 #[.pointer (some ⟨E.k, 0, none⟩), v1, .int .i64 4] w9 fun e w' => ∃ L', e = .returned (.bool true) ∧ Good E L' (writeS E.cf tn kw (toU u)) w' ∧ DidP (TP 0) L9 w9 L' w') := law15_done (most := 4) hg9 (by decide) (by decide) (by decide) hc9 hrun
        clear hrun hg9 hc9 hd9 HZ8 HB8 HG8 hz9
        go_wp2_with fail
        refine HDO.out.mono ?_
        rintro e w10 ⟨L10, rfl, hg10, hd10⟩
        have hz10 : ∀ b, b ≤ w.heap.size + 1 ∨ b = kb → L10 b = 0 ∧ b < w10.heap.size := fun b hle => ⟨(hd10.lab b (HZ9.out b hle).2).trans (HZ9.out b hle).1, Nat.lt_of_lt_of_le (HZ9.out b hle).2 hd10.size⟩
        have HZ10 := Go.Lib.hid hz10
        replace e0 := hd10.cell e0 (tp0 (HZ9.out _ (.inl (Nat.le_succ _))).1)
        replace e1 := hd10.cell e1 (tp0 (HZ9.out _ (.inl (Nat.le_succ _))).1)
        replace e2 := hd10.cell e2 (tp0 (HZ9.out _ (.inl (Nat.le_succ _))).1)
        replace e3 := hd10.cell e3 (tp0 (HZ9.out _ (.inl (Nat.le_succ _))).1)
        replace e4 := hd10.cell e4 (tp0 (HZ9.out _ (.inl (Nat.le_succ _))).1)
        replace e5 := hd10.cell e5 (tp0 (HZ9.out _ (.inl (Nat.le_succ _))).1)
        replace e6 := hd10.cell e6 (tp0 (HZ9.out _ (.inl (Nat.le_succ _))).1)
        replace e7 := hd10.cell e7 (tp0 (HZ9.out _ (.inl (Nat.le_succ _))).1)
        replace e8 := hd10.cell e8 (tp0 (HZ9.out _ (.inl (Nat.le_succ _))).1)
        replace e9 := hd10.cell e9 (tp0 (HZ9.out _ (.inl (Nat.le_succ _))).1)
        replace e10 := hd10.cell e10 (tp0 (HZ9.out _ (.inl (Nat.le_succ _))).1)
        replace e11 := hd10.cell e11 (tp0 (HZ9.out _ (.inl (Nat.le_succ _))).1)
        replace e12 := hd10.cell e12 (tp0 (HZ9.out _ (.inl (Nat.le_succ _))).1)
        replace ed := hd10.cell ed (tp0 (HZ9.out _ (.inl (Nat.le_refl _))).1)
        replace q0 := hd10.cell q0 (tp0 (HZ9.out _ (.inr rfl)).1)
        replace q1 := hd10.cell q1 (tp0 (HZ9.out _ (.inr rfl)).1)
        replace q2 := hd10.cell q2 (tp0 (HZ9.out _ (.inr rfl)).1)
        have HB10 := Go.Lib.hid (hd10.below_old HB9.out (Nat.le_refl _) (fun b hlt => (HZ9.out b (.inl (by omega))).1))
        have HG10 := Go.Lib.hid hg10
        clear hg10 hd10 HDO HZ9 HB9 hz10
        go_wp2_with (first
          | (go_at_call 9; refine (core_cells HG10.out).mono ?_; rintro e w10 ⟨rfl, rfl⟩)
          | fail)
        refine (arena_all HG10.out.ar).mono ?_
        rintro e w11 ⟨rfl, hall⟩
        have htk := WF.htk
        have hkp := WF.hkp
        have hub := WF.hub
        have hkI := key_at E.cf tn htk
        have htI := time_at E.cf tn htk
        have htu := toI_toU hub.1 hub.2
        obtain ⟨a1, a2, b1, b2⟩ := writeS_read htk htu.2 hall
        have HPK : Hid (∀ W, Below w10.heap.size w10 W → Calls Tryz.prog 12 #[.pointer (some ⟨E.p, 0, none⟩), .int .i64 tn] W (Qt (.int .i64 (E.cf.ticketsAt + 3 * tn : Nat)) W)) := fun W hW => by
          have h := plan_Key HG10.out.ok E.p tn W (HG10.out.below hW).pl
          rwa [hkI] at h
        have HPT : Hid (∀ W, Below w10.heap.size w10 W → Calls Tryz.prog 24 #[.pointer (some ⟨E.p, 0, none⟩), .int .i64 tn] W (Qt (.int .i64 (E.cf.ticketsAt + 3 * tn + 1 : Nat)) W)) := fun W hW => by
          have h := plan_Time HG10.out.ok E.p tn W (HG10.out.below hW).pl
          rwa [htI] at h
        have HDU : Hid (∀ W, Calls Tryz.prog 25 #[.agg #[.int .i64 (x 0), .int .i64 (x 1), .int .i64 (x 2), .int .i64 (x 3), .int .i64 (x 4), .int .i64 (x 5), .int .i64 (x 6), .int .i64 (x 7), .int .i64 (x 8), .int .i64 (x 9), .int .i64 (x 10), .int .i64 (x 11), .int .i64 (x 12)], .int .i64 d] W fun e w' => e = .returned (.int .i64 u) ∧ Below W.heap.size W w') := fun W => by
          have h := ref_Due x d W
          rwa [← WF.hu] at h
        have hbl := hall.bl
        have HBL := Go.Lib.hid hbl
        replace e0 := below_cell hbl e0
        replace e1 := below_cell hbl e1
        replace e2 := below_cell hbl e2
        replace e3 := below_cell hbl e3
        replace e4 := below_cell hbl e4
        replace e5 := below_cell hbl e5
        replace e6 := below_cell hbl e6
        replace e7 := below_cell hbl e7
        replace e8 := below_cell hbl e8
        replace e9 := below_cell hbl e9
        replace e10 := below_cell hbl e10
        replace e11 := below_cell hbl e11
        replace e12 := below_cell hbl e12
        replace ed := below_cell hbl ed
        replace q0 := below_cell hbl q0
        replace q1 := below_cell hbl q1
        replace q2 := below_cell hbl q2
        have b3 : (0 : Int) ≤ ((E.cf.ticketsAt + 3 * tn : Nat) : Int) := Int.natCast_nonneg _
        have b4 : (0 : Int) ≤ ((E.cf.ticketsAt + 3 * tn + 1 : Nat) : Int) := Int.natCast_nonneg _
        have hwu := wrap_u hub
        have HTU := Go.Lib.hid (And.intro htu hkp)
        clear hkI htI htu hall hbl hkp hub htk
        generalize E.cf.ticketsAt + 3 * tn + 1 = tI at *
        generalize E.cf.ticketsAt + 3 * tn = kI at *
        generalize (writeS E.cf tn kw (toU u)).n = sn at *
        have a1' : ∀ d os, (Sort.grow (redrawn w11 d) os).cell? ⟨w10.heap.size, kI, none⟩ = some (.int .u64 (kw : Nat)) := fun d os => cell_regrown a1 d os
        have a2' : ∀ d os, (Sort.grow (redrawn w11 d) os).cell? ⟨w10.heap.size, tI, none⟩ = some (.int .u64 u) := fun d os => cell_regrown a2 d os
        have ed' : ∀ d' os, (Sort.grow (redrawn w11 d') os).cell? ⟨w.heap.size + 1, 0, none⟩ = some (.int .i64 d) := fun d' os => cell_regrown ed d' os
        have e0' : ∀ d os, (Sort.grow (redrawn w11 d) os).cell? ⟨w.heap.size, 0, none⟩ = some (.int .i64 (x 0)) := fun d os => cell_regrown e0 d os
        have e1' : ∀ d os, (Sort.grow (redrawn w11 d) os).cell? ⟨w.heap.size, 1, none⟩ = some (.int .i64 (x 1)) := fun d os => cell_regrown e1 d os
        have e2' : ∀ d os, (Sort.grow (redrawn w11 d) os).cell? ⟨w.heap.size, 2, none⟩ = some (.int .i64 (x 2)) := fun d os => cell_regrown e2 d os
        have e3' : ∀ d os, (Sort.grow (redrawn w11 d) os).cell? ⟨w.heap.size, 3, none⟩ = some (.int .i64 (x 3)) := fun d os => cell_regrown e3 d os
        have e4' : ∀ d os, (Sort.grow (redrawn w11 d) os).cell? ⟨w.heap.size, 4, none⟩ = some (.int .i64 (x 4)) := fun d os => cell_regrown e4 d os
        have e5' : ∀ d os, (Sort.grow (redrawn w11 d) os).cell? ⟨w.heap.size, 5, none⟩ = some (.int .i64 (x 5)) := fun d os => cell_regrown e5 d os
        have e6' : ∀ d os, (Sort.grow (redrawn w11 d) os).cell? ⟨w.heap.size, 6, none⟩ = some (.int .i64 (x 6)) := fun d os => cell_regrown e6 d os
        have e7' : ∀ d os, (Sort.grow (redrawn w11 d) os).cell? ⟨w.heap.size, 7, none⟩ = some (.int .i64 (x 7)) := fun d os => cell_regrown e7 d os
        have e8' : ∀ d os, (Sort.grow (redrawn w11 d) os).cell? ⟨w.heap.size, 8, none⟩ = some (.int .i64 (x 8)) := fun d os => cell_regrown e8 d os
        have e9' : ∀ d os, (Sort.grow (redrawn w11 d) os).cell? ⟨w.heap.size, 9, none⟩ = some (.int .i64 (x 9)) := fun d os => cell_regrown e9 d os
        have e10' : ∀ d os, (Sort.grow (redrawn w11 d) os).cell? ⟨w.heap.size, 10, none⟩ = some (.int .i64 (x 10)) := fun d os => cell_regrown e10 d os
        have e11' : ∀ d os, (Sort.grow (redrawn w11 d) os).cell? ⟨w.heap.size, 11, none⟩ = some (.int .i64 (x 11)) := fun d os => cell_regrown e11 d os
        have e12' : ∀ d os, (Sort.grow (redrawn w11 d) os).cell? ⟨w.heap.size, 12, none⟩ = some (.int .i64 (x 12)) := fun d os => cell_regrown e12 d os
        have HGW : Hid (∀ W, Below w10.heap.size w10 W → Good E L10 (writeS E.cf tn kw (toU u)) W) := fun W hW => HG10.out.below hW
        have HBP : Hid (∀ p : Regrown, Below w10.heap.size w10 (Sort.grow (redrawn w11 p.d) p.os)) := fun p => HBL.out.trans ((below_regrown w11 p.d p.os).mono HBL.out.size)
        go_wp2
        refine wp_region_quiet_below (by kernel_rfl) (by kernel_rfl) ?_
        repeat (go_big_quiet_step (first
          | (go_at_call 11; rename_i p; exact Calls.regrown_of ((core_plan (HGW.out _ (HBP.out p))).mono (fun _ _ h => ⟨h.1, h.2 ▸ Below.refl _ _⟩)))
          | (go_at_call 12; rename_i p; exact Calls.regrown_of ((HPK.out _ (HBP.out p)).mono (fun _ _ h => h.below)))
          | (go_at_call 24; rename_i p; exact Calls.regrown_of ((HPT.out _ (HBP.out p)).mono (fun _ _ h => h.below)))
          | (go_at_call 25; rename_i p; exact Calls.regrown_of (HDU.out _))))
        refine wpQuiet_nil ?_
        intro w12 hw'
        obtain ⟨p, rfl⟩ := hw'
        have hbx := HBP.out p
        have hby := below_regrown w11 p.d p.os
        replace e0 := below_cell hby e0
        replace e1 := below_cell hby e1
        replace e2 := below_cell hby e2
        replace e3 := below_cell hby e3
        replace e4 := below_cell hby e4
        replace e5 := below_cell hby e5
        replace e6 := below_cell hby e6
        replace e7 := below_cell hby e7
        replace e8 := below_cell hby e8
        replace e9 := below_cell hby e9
        replace e10 := below_cell hby e10
        replace e11 := below_cell hby e11
        replace e12 := below_cell hby e12
        replace ed := below_cell hby ed
        replace q0 := below_cell hby q0
        replace q1 := below_cell hby q1
        replace q2 := below_cell hby q2
        clear e0' e1' e2' e3' e4' e5' e6' e7' e8' e9' e10' e11' e12' a1' a2' ed' a1 a2 HBP HGW HPK HPT HDU HBL b1 b2 b3 b4 hwu hby
        generalize Sort.grow (redrawn w11 p.d) p.os = w12 at *
        obtain ⟨htu, hkp⟩ := HTU.out
        have hdec : decide (((part kw 32 32 : Nat) : Int) = (gn : Int) ∧ ((part kw 16 16 : Nat) : Int) = (vn : Int) ∧ ((part kw 0 16 : Nat) : Int) = (nn : Int) ∧ toI (toU u) = upI d (x 5)) = true := by
          rw [hkp.1, hkp.2.1, hkp.2.2, htu.1, ← WF.hu]; simp
        have HDEC := Go.Lib.hid hdec
        have hget := writeS_get E.cf tn kw (toU u) WF.htk
        have HGET := Go.Lib.hid hget
        have HG12 := Go.Lib.hid (HG10.out.below hbx)
        have HB12 := Go.Lib.hid (HB10.out.trans (hbx.mono HB10.out.size))
        have hz12 : ∀ b, b ≤ w.heap.size + 1 ∨ b = kb → L10 b = 0 ∧ b < w12.heap.size := fun b hle => ⟨(HZ10.out b hle).1, Nat.lt_of_lt_of_le (HZ10.out b hle).2 hbx.size⟩
        obtain ⟨L13, hg13, hs13⟩ : ∃ L', Good E L' ((writeS E.cf tn kw (toU u)).newR w12.heap.size (.bool false)) (w12.alloc (.cells #[.bool false] 4)) ∧ Shr L10 w12 L' (w12.alloc (.cells #[.bool false] 4)) := ⟨_, HG12.out.newR _ _⟩
        have hal : Below w12.heap.size w12 (w12.alloc (.cells #[.bool false] 4)) := (Below.refl _ _).alloc (Nat.le_refl _) _
        have hz13 : ∀ b, b ≤ w.heap.size + 1 ∨ b = kb → L13 b = 0 ∧ b < (w12.alloc (.cells #[.bool false] 4)).heap.size := fun b hle => ⟨(hs13.lab b (hz12 b hle).2).trans (hz12 b hle).1, Nat.lt_of_lt_of_le (hz12 b hle).2 hs13.size⟩
        have HZ13 := Go.Lib.hid hz13
        have HG13 := Go.Lib.hid hg13
        have HB13 := Go.Lib.hid (HB12.out.trans (hal.mono HB12.out.size))
        replace e0 := below_cell hal e0
        replace e1 := below_cell hal e1
        replace e2 := below_cell hal e2
        replace e3 := below_cell hal e3
        replace e4 := below_cell hal e4
        replace e5 := below_cell hal e5
        replace e6 := below_cell hal e6
        replace e7 := below_cell hal e7
        replace e8 := below_cell hal e8
        replace e9 := below_cell hal e9
        replace e10 := below_cell hal e10
        replace e11 := below_cell hal e11
        replace e12 := below_cell hal e12
        replace ed := below_cell hal ed
        replace q0 := below_cell hal q0
        replace q1 := below_cell hal q1
        replace q2 := below_cell hal q2
        clear hbx htu hkp hdec hget hg13 hs13 hal hz12 hz13 HG10 HB10 HZ10 HTU HG12 HB12
        go_wp2_with fail
        generalize (w12.alloc (.cells #[.bool false] 4)) = w13 at *
        generalize w12.heap.size = ob at *
        refine (read_any (R := readR) (t := 0) (n := 1) readR_mono HG13.out (law15_writes2 x gn vn nn d kb w.heap.size (w.heap.size + 1) ob q0 q1 q2 (HZ13.out _ (.inr rfl)).1 e0 e1 e2 e3 e4 e5 e6 e7 e8 e9 e10 e11 e12 (HZ13.out _ (.inl (Nat.le_succ _))).1 ed (HZ13.out _ (.inl (Nat.le_refl _))).1)).mono ?_
        rintro e w14 ⟨v2, L14, rfl, hd14, hg14, hc14⟩
        have hz14 : ∀ b, b ≤ w.heap.size + 1 → L14 b = 0 := fun b hle => (hd14.lab b (HZ13.out b (.inl hle)).2).trans (HZ13.out b (.inl hle)).1
        have HZ14 := Go.Lib.hid hz14
        have HB14 := Go.Lib.hid (hd14.below_old HB13.out (Nat.le_refl _) (fun b hlt => (HZ13.out b (.inl (by omega))).1))
        have hc2 := writeS_cnt E.cf tn kw (toU u)
        have hl2 := writeS_log E.cf tn kw (toU u)
        have hrun := read_runs (cf := E.cf) (S := (writeS E.cf tn kw (toU u)).newR ob (.bool false)) (t := (tn : Int)) (r := (ob, (gn : Int), (vn : Int), (nn : Int), upI d (x 5))) (x := kw) (y := toU u) HGET.out.1 HGET.out.2 (by show ob ∈ List.map Prod.fst ((ob, Value.bool false) :: _); simp) (by show (writeS E.cf tn kw (toU u)).cnt ≤ 1000000; exact Nat.le_trans hc2 (by decide)) (by show (writeS E.cf tn kw (toU u)).log.length ≤ 1000000; rw [hl2]; decide)
        have HDO : Hid (Calls Tryz.prog 18 #[.pointer (some ⟨E.k, 0, none⟩), v2, .int .i64 4] w14 fun e w' => ∃ L', e = .returned (.bool true) ∧ Good E L' (((((writeS E.cf tn kw (toU u)).newR ob (.bool false)).touch (E.cf.key tn)).touch (E.cf.time tn)).setR ob (.bool (decide (((part kw 32 32 : Nat) : Int) = (gn : Int) ∧ ((part kw 16 16 : Nat) : Int) = (vn : Int) ∧ ((part kw 0 16 : Nat) : Int) = (nn : Int) ∧ toI (toU u) = upI d (x 5))))) w' ∧ DidP (TP 0) L14 w14 L' w') := law15_done (most := 4) hg14 (by decide) (by decide) (by decide) hc14 hrun
        clear hrun hg14 hc14 hd14 HZ13 HG13 HB13 hz14 hc2 hl2 e0 e1 e2 e3 e4 e5 e6 e7 e8 e9 e10 e11 e12 ed q0 q1 q2
        go_wp2_with fail
        refine HDO.out.mono ?_
        rintro e w15 ⟨L15, rfl, hg15, hd15⟩
        have d1 := (hg15.rg ob _ (by rw [writeS_reg]; exact List.mem_singleton.2 rfl)).1
        rw [HDEC.out] at d1
        have HB15 := Go.Lib.hid (hd15.below_old HB14.out (Nat.le_refl _) (fun b hlt => HZ14.out b (by omega)))
        clear hg15 hd15 HDO HDEC HGET HB14 HZ14
        go_wp2
        go_ret
        exact ⟨rfl, HB15.out⟩
      · refine (ref_WordKey_no gen version node hg hv hn hk _ _ 3 3 w4 g0 g1 g2 p0 p1 p2).mono ?_
        rintro e w5 ⟨rfl, hb5⟩
        replace e0 := below_cell hb5 e0
        replace e1 := below_cell hb5 e1
        replace e2 := below_cell hb5 e2
        replace e3 := below_cell hb5 e3
        replace e4 := below_cell hb5 e4
        replace e5 := below_cell hb5 e5
        replace e6 := below_cell hb5 e6
        replace e7 := below_cell hb5 e7
        replace e8 := below_cell hb5 e8
        replace e9 := below_cell hb5 e9
        replace e10 := below_cell hb5 e10
        replace e11 := below_cell hb5 e11
        replace e12 := below_cell hb5 e12
        replace ed := below_cell hb5 ed
        replace hb := hb.trans (hb5.mono hb.size)
        clear hb5 g0 g1 g2 p0 p1 p2 hbb hg hv hn HB hk
        go_wp2_with fail
        refine (HBE.out _).mono ?_
        rintro e w7 ⟨E, L, w0, rfl, hb3, hborn⟩
        obtain ⟨hcf, hgood, hbl, hold, hnr, hek⟩ := hborn
        have hb0 := hb.trans (hb3.mono hb.size)
        have HB7 := Go.Lib.hid (hb0.trans (hbl.mono hb0.size))
        clear hcf hgood hbl hold hnr hek hb0 hb3 hb HBE
        go_wp2
        go_ret
        exact ⟨rfl, HB7.out⟩
    · have HI1 := Go.Lib.hid (ref_In t (x 4))
      rw [decide_eq_false ht] at HI1
      go_wp2_with fail
      refine (HI1.out _).mono ?_
      rintro e w' ⟨rfl, rfl⟩
      go_wp2_with fail
      refine (law15_speaks _).mono ?_
      rintro e w9 ⟨rfl, hb9⟩
      replace hb := hb.trans (hb9.mono hb.size)
      clear hb9
      go_wp2
      go_ret
      exact ⟨rfl, hb⟩
  · rw [decide_eq_false hsm]
    go_wp2_with fail
    refine (law15_speaks _).mono ?_
    rintro e w9 ⟨rfl, hb9⟩
    replace hb := hb.trans (hb9.mono hb.size)
    clear hb9
    go_wp2
    go_ret
    exact ⟨rfl, hb⟩
end Go.Proofs.YtlbjjooiiikmjaaGreat

