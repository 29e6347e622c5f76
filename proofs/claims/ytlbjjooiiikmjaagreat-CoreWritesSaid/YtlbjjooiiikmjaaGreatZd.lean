/- Writing a ticket, and reading it: the law's continuations. -/
import Derived.Test.YtlbjjooiiikmjaaGreatUf
import Derived.Test.YtlbjjooiiikmjaaGreatZa
namespace Go.Proofs.YtlbjjooiiikmjaaGreat
open Go.RowKit
set_option maxRecDepth 100000
set_option linter.unusedVariables false

theorem packed_of (ws : List Nat) (ns : List Int) (h : (List.range ws.length).all (fun j => fits (ns.getD j 0) (ws.getD j 0)) = true) : packed ws ns = (packAcc ws ns ws.length, 0) := if_pos h
theorem packAcc_succ (ws : List Nat) (ns : List Int) (k : Nat) : packAcc ws ns (k + 1) = packAcc ws ns k + (ns.getD k 0).toNat * 2 ^ (64 - wsum ws (k + 1)) := rfl
theorem packAcc_three (ws : List Nat) (ns : List Int) : packAcc ws ns 3 = (ns.getD 0 0).toNat * 2 ^ (64 - wsum ws 1) + (ns.getD 1 0).toNat * 2 ^ (64 - wsum ws 2) + (ns.getD 2 0).toNat * 2 ^ (64 - wsum ws 3) := by
  rw [packAcc_succ, packAcc_succ, packAcc_succ]
  show 0 + _ + _ + _ = _
  rw [Nat.zero_add]
theorem keyFits {ws : List Nat} {ns : List Int} (hw : ws.length = 3) (f0 : fits (ns.getD 0 0) (ws.getD 0 0) = true) (f1 : fits (ns.getD 1 0) (ws.getD 1 0) = true) (f2 : fits (ns.getD 2 0) (ws.getD 2 0) = true) : (packed ws ns).1 = packAcc ws ns 3 := by
  rw [packed_of, hw]
  rw [hw, List.all_eq_true]
  intro j hj
  rw [List.mem_range] at hj
  match j, hj with
  | 0, _ => exact f0
  | 1, _ => exact f1
  | 2, _ => exact f2
theorem key_packed {ws : List Nat} {ns : List Int} (hw : ws.length = 3) {g v n : Nat} (q1 : (ns.getD 0 0).toNat = g) (q2 : (ns.getD 1 0).toNat = v) (q3 : (ns.getD 2 0).toNat = n)
    (f0 : fits (ns.getD 0 0) (ws.getD 0 0) = true) (f1 : fits (ns.getD 1 0) (ws.getD 1 0) = true) (f2 : fits (ns.getD 2 0) (ws.getD 2 0) = true)
    (w1 : 64 - wsum ws 1 = 32) (w2 : 64 - wsum ws 2 = 16) (w3 : 64 - wsum ws 3 = 0) : (packed ws ns).1 = (g * 65536 + v) * 65536 + n := by
  rw [keyFits hw f0 f1 f2, packAcc_three, w1, w2, w3, q1, q2, q3]
  omega
theorem keyWord_eq (g v n : Int) : keyWord g v n = (packed [32, 16, 16] [g, v, n]).1 := rfl
theorem fit32 {g : Nat} (h : g < 4294967296) : fits (g : Int) 32 = true := by
  unfold fits; rw [decide_eq_true_eq]; omega
theorem fit16 {g : Nat} (h : g < 65536) : fits (g : Int) 16 = true := by
  unfold fits; rw [decide_eq_true_eq]; omega
theorem keyWord_ok {g v n : Nat} (hg : g < 4294967296) (hv : v < 65536) (hn : n < 65536) : keyWord g v n = (g * 65536 + v) * 65536 + n := by
  rw [keyWord_eq]
  exact key_packed rfl rfl rfl rfl (fit32 hg) (fit16 hv) (fit16 hn) rfl rfl rfl
theorem key_parts3 {g v n : Nat} (hg : g < 4294967296) (hv : v < 65536) (hn : n < 65536) : part ((g * 65536 + v) * 65536 + n) 0 16 = n ∧ part ((g * 65536 + v) * 65536 + n) 16 16 = v ∧ part ((g * 65536 + v) * 65536 + n) 32 32 = g := by
  unfold part
  refine ⟨?_, ?_, ?_⟩ <;> omega

/-- A continuation that ends the code. -/
def endR : Unit → Arg → St → St × Option (K Unit)
  | _, _, S => (S, none)
theorem endR_mono : RMono endR := fun _ _ _ => ⟨Nat.le_refl _, Nat.le_refl _⟩
/-- Writing a ticket takes two steps. -/
theorem write_runs {cf : Cf} {S : St} {t g v n d : Int} (hc : S.cnt ≤ 1000000) (hl : S.log.length ≤ 1000000) :
    Runs cf endR (writeK cf t g v n d (.ret ())) S 2 ((S.put (cf.key t) (keyWord g v n)).put (cf.time t) (toU (upI d cf.slack))) := by
  have t1 := St.put_cnt S (cf.key t) (keyWord g v n)
  have t2 := St.put_cnt (S.put (cf.key t) (keyWord g v n)) (cf.time t) (toU (upI d cf.slack))
  have t3 := St.put_log S (cf.key t) (keyWord g v n)
  have t4 := St.put_log (S.put (cf.key t) (keyWord g v n)) (cf.time t) (toU (upI d cf.slack))
  generalize hw : keyWord g v n = kw at *
  refine .more (S1 := S.put (cf.key t) kw) (κ1 := .store (cf.time t) (toU (upI d cf.slack)) (.ret ())) ?_ ⟨by omega, by rw [t3]; omega⟩ t1 (.last ?_ ⟨by omega, by rw [t4, t3]; omega⟩ t2)
  · subst hw; rfl
  · rfl

/-- Whether what is read is what was written is laid into a variable. -/
def readR : Nat × Int × Int × Int × Int → Arg → St → St × Option (K (Nat × Int × Int × Int × Int))
  | (b, g, v, n, d), .key g' v' n' d', S => if S.knows b then (S.setR b (.bool (decide (g' = g ∧ v' = v ∧ n' = n ∧ d' = d))), none) else (S.burst, none)
  | _, _, S => (S, none)
theorem readR_mono : RMono readR := by
  rintro ⟨b, g, v, n, d⟩ a S
  cases a <;> try exact ⟨Nat.le_refl _, Nat.le_refl _⟩
  unfold readR
  dsimp only
  split
  · exact ⟨Nat.le_refl _, Nat.le_refl _⟩
  · exact ⟨by unfold St.burst; dsimp only; omega, Nat.le_refl _⟩
/-- Reading a ticket takes two steps. -/
theorem read_runs {cf : Cf} {S : St} {t : Int} {r : Nat × Int × Int × Int × Int} {x y : Nat} (hx : S.get (cf.key t) = x) (hy : S.get (cf.time t) = y) (hk : S.knows r.1) (hc : S.cnt ≤ 1000000) (hl : S.log.length ≤ 1000000) :
    Runs cf readR (readK cf t (.ret r)) S 2 (((S.touch (cf.key t)).touch (cf.time t)).setR r.1 (.bool (decide (((part x 32 32 : Nat) : Int) = r.2.1 ∧ ((part x 16 16 : Nat) : Int) = r.2.2.1 ∧ ((part x 0 16 : Nat) : Int) = r.2.2.2.1 ∧ toI y = r.2.2.2.2)))) := by
  have t1 := St.touch_cnt S (cf.key t)
  have t2 := St.touch_cnt (S.touch (cf.key t)) (cf.time t)
  have t3 := St.touch_log S (cf.key t)
  have t4 := St.touch_log (S.touch (cf.key t)) (cf.time t)
  refine .more (S1 := S.touch (cf.key t)) (κ1 := .load (cf.time t) (.readB x (.ret r))) ?_ ⟨by omega, by rw [t3]; omega⟩ t1 (.last ?_ ⟨?_, ?_⟩ t2)
  · show app cf readR (.readA t (.ret r)) (.w (S.get (cf.key t))) (S.touch (cf.key t)) = _
    rw [hx]
    rfl
  · show app cf readR (.readB x (.ret r)) (.w ((S.touch (cf.key t)).get (cf.time t))) _ = _
    rw [St.get_touch, hy]
    obtain ⟨b, g, v, n, d⟩ := r
    show (if _ then _ else _) = _
    rw [if_pos]
    unfold St.knows; rw [St.touch_reg, St.touch_reg]; exact hk
  · show ((S.touch (cf.key t)).touch (cf.time t)).cnt ≤ _
    omega
  · show ((S.touch (cf.key t)).touch (cf.time t)).log.length ≤ _
    rw [t4, t3]; omega

theorem enters_law15_writes1 : EntersF 22 := enters_of Tryz.func22 (by kernel_rfl) rfl
set_option maxHeartbeats 1000000 in
theorem law15_writes1 {cf : Cf} {E : G} {t n : Nat} {L : Lab} {w : World} :
    ConSim cf endR E t isU n L w (.func (.func 22) #[] #[]) (.ret ()) := by
  refine ⟨_, _, rfl, enters_law15_writes1, ?_⟩
  intro a L' w' S ha hx hg hbd
  cases a with
  | u =>
    show Calls _ _ #[] _ _
    have HG := Go.Lib.hid hg
    clear hg hbd hx
    go_enter Tryz.func22, Tryz.ntmps22
    go_wp2
    go_ret
    refine ⟨_, L', rfl, Did.refl _ _ _, HG.out, ?_⟩
    cases n with
    | zero => trivial
    | succ n => rfl
  | _ => exact absurd ha (by simp [isU])
theorem enters_law15_writes2 : EntersF 27 := enters_of Tryz.func27 (by kernel_rfl) rfl
set_option maxHeartbeats 2000000 in
theorem law15_writes2 {cf : Cf} {E : G} {t n : Nat} {L : Lab} {w : World} (x : Nat → Int) (g v nd d : Int) (kb cb db ob : Nat)
    (k0 : w.cell? ⟨kb, 0, none⟩ = some (.int .i64 g)) (k1 : w.cell? ⟨kb, 1, none⟩ = some (.int .i64 v)) (k2 : w.cell? ⟨kb, 2, none⟩ = some (.int .i64 nd)) (lk : L kb = 0)
    (c0 : w.cell? ⟨cb, 0, none⟩ = some (.int .i64 (x 0))) (c1 : w.cell? ⟨cb, 1, none⟩ = some (.int .i64 (x 1))) (c2 : w.cell? ⟨cb, 2, none⟩ = some (.int .i64 (x 2))) (c3 : w.cell? ⟨cb, 3, none⟩ = some (.int .i64 (x 3))) (c4 : w.cell? ⟨cb, 4, none⟩ = some (.int .i64 (x 4))) (c5 : w.cell? ⟨cb, 5, none⟩ = some (.int .i64 (x 5))) (c6 : w.cell? ⟨cb, 6, none⟩ = some (.int .i64 (x 6))) (c7 : w.cell? ⟨cb, 7, none⟩ = some (.int .i64 (x 7))) (c8 : w.cell? ⟨cb, 8, none⟩ = some (.int .i64 (x 8))) (c9 : w.cell? ⟨cb, 9, none⟩ = some (.int .i64 (x 9))) (c10 : w.cell? ⟨cb, 10, none⟩ = some (.int .i64 (x 10))) (c11 : w.cell? ⟨cb, 11, none⟩ = some (.int .i64 (x 11))) (c12 : w.cell? ⟨cb, 12, none⟩ = some (.int .i64 (x 12))) (lc : L cb = 0)
    (d0 : w.cell? ⟨db, 0, none⟩ = some (.int .i64 d)) (ld : L db = 0) :
    ConSim cf readR E t isKey n L w (.func (.func 27) #[] #[.pointer (some ⟨kb, 0, none⟩), .pointer (some ⟨cb, 0, none⟩), .pointer (some ⟨db, 0, none⟩), .pointer (some ⟨ob, 0, none⟩)]) (.ret (ob, g, v, nd, upI d (x 5))) := by
  refine ⟨_, _, rfl, enters_law15_writes2, ?_⟩
  intro a L' w' S ha hx hg hbd
  cases a with
  | key g' v' n' d' =>
    unfold app at hbd ⊢
    unfold readR at hbd ⊢
    dsimp only at hbd ⊢
    by_cases hk : S.knows ob
    · rw [if_pos hk]
      show Calls _ _ #[_, _, _, _, _, _] _ _
      have hb : Below w'.heap.size w' (w'.alloc (.cells #[.int .i64 g', .int .i64 v', .int .i64 n'] 54)) := (Below.refl _ _).alloc (Nat.le_refl _) _
      have k0 := below_cell hb (hx.cell0 k0 lk)
      have k1 := below_cell hb (hx.cell0 k1 lk)
      have k2 := below_cell hb (hx.cell0 k2 lk)
      have d0 := below_cell hb (hx.cell0 d0 ld)
      have c0 := below_cell hb (hx.cell0 c0 lc)
      have c1 := below_cell hb (hx.cell0 c1 lc)
      have c2 := below_cell hb (hx.cell0 c2 lc)
      have c3 := below_cell hb (hx.cell0 c3 lc)
      have c4 := below_cell hb (hx.cell0 c4 lc)
      have c5 := below_cell hb (hx.cell0 c5 lc)
      have c6 := below_cell hb (hx.cell0 c6 lc)
      have c7 := below_cell hb (hx.cell0 c7 lc)
      have c8 := below_cell hb (hx.cell0 c8 lc)
      have c9 := below_cell hb (hx.cell0 c9 lc)
      have c10 := below_cell hb (hx.cell0 c10 lc)
      have c11 := below_cell hb (hx.cell0 c11 lc)
      have c12 := below_cell hb (hx.cell0 c12 lc)
      have q0 : (w'.alloc (.cells #[.int .i64 g', .int .i64 v', .int .i64 n'] 54)).cell? ⟨w'.heap.size, 0, none⟩ = some (.int .i64 g') := by go_simp
      have q1 : (w'.alloc (.cells #[.int .i64 g', .int .i64 v', .int .i64 n'] 54)).cell? ⟨w'.heap.size, 1, none⟩ = some (.int .i64 v') := by go_simp
      have q2 : (w'.alloc (.cells #[.int .i64 g', .int .i64 v', .int .i64 n'] 54)).cell? ⟨w'.heap.size, 2, none⟩ = some (.int .i64 n') := by go_simp
      obtain ⟨⟨u1, o1⟩, o2, lo⟩ := (hg.below hb).knows hk
      have HG := Go.Lib.hid (hg.below hb)
      have HB := Go.Lib.hid hb
      have hk' := Go.Lib.hid hk
      clear hg hbd hx hb hk
      have hdu := ref_Due x d
      have HDU := Go.Lib.hid hdu
      clear hdu
      generalize upI d (x 5) = u at *
      by_cases e1 : g' = g ∧ v' = v ∧ n' = nd
      · obtain ⟨rfl, rfl, rfl⟩ := e1
        have hde : decide (g' = g' ∧ v' = v' ∧ n' = n' ∧ d' = u) = decide (d' = u) := by simp
        rw [hde]
        go_enter Tryz.func27, Tryz.ntmps27
        go_wp2_with fail
        generalize (w'.alloc (.cells #[.int .i64 g', .int .i64 v', .int .i64 n'] 54)) = w1 at *
        refine (HDU.out _).mono ?_
        rintro e w2 ⟨rfl, hb2⟩
        have hgk := (HG.out.below hb2).knows hk'.out
        obtain ⟨⟨u2, o1⟩, o2, lo⟩ := hgk
        have hfin := (HG.out.below hb2).setR hk'.out (.bool (decide (d' = u)))
        have hsh := (Shr.of_below HB.out L').trans ((Shr.of_below (hb2.mono (Nat.le_refl _)) L').trans (Shr.set (w := w2) (L := L') (a := ⟨ob, 0, none⟩) (.bool (decide (d' = u))) (by show 1 ≤ L' ob; omega) (by show L' ob < 8; omega)))
        have HF := Go.Lib.hid hfin
        have HS := Go.Lib.hid (hsh.did t)
        clear hfin hsh hb2
        have hbe : (d' == u) = decide (d' = u) := by simp [BEq.beq]
        go_wp2
        go_ret
        refine ⟨_, L', rfl, ?_, ?_, ?_⟩
        · first | exact HS.out | (rw [hbe]; exact HS.out)
        · first | exact HF.out | (rw [hbe]; exact HF.out)
        · cases n with
          | zero => trivial
          | succ n => rfl
      · have hde : decide (g' = g ∧ v' = v ∧ n' = nd ∧ d' = u) = false := by
          rw [decide_eq_false_iff_not]
          intro h
          exact e1 ⟨h.1, h.2.1, h.2.2.1⟩
        rw [hde]
        have hfin := HG.out.setR hk'.out (.bool false)
        have hsh := (Shr.of_below HB.out L').trans (Shr.set (L := L') (w := (w'.alloc (.cells #[.int .i64 g', .int .i64 v', .int .i64 n'] 54))) (a := ⟨ob, 0, none⟩) (.bool false) (by show 1 ≤ L' ob; omega) (by show L' ob < 8; omega))
        have HF := Go.Lib.hid hfin
        have HS := Go.Lib.hid (hsh.did t)
        clear hfin hsh
        by_cases a1 : g' = g
        · subst a1
          by_cases a2 : v' = v
          · subst a2
            have a3 : (n' == nd) = false := by simp; intro h; exact e1 ⟨rfl, rfl, h⟩
            go_enter Tryz.func27, Tryz.ntmps27
            go_wp2
            go_ret
            refine ⟨_, L', rfl, HS.out, HF.out, ?_⟩
            cases n with
            | zero => trivial
            | succ n => rfl
          · have a3 : (v' == v) = false := by simpa using a2
            go_enter Tryz.func27, Tryz.ntmps27
            go_wp2
            go_ret
            refine ⟨_, L', rfl, HS.out, HF.out, ?_⟩
            cases n with
            | zero => trivial
            | succ n => rfl
        · have a3 : (g' == g) = false := by simpa using a1
          go_enter Tryz.func27, Tryz.ntmps27
          go_wp2
          go_ret
          refine ⟨_, L', rfl, HS.out, HF.out, ?_⟩
          cases n with
          | zero => trivial
          | succ n => rfl
    · rw [if_neg hk] at hbd
      exact (St.burst_no hbd).elim
  | _ => exact absurd ha (by simp [isKey])
end Go.Proofs.YtlbjjooiiikmjaaGreat

