/- A Cancel, or a Rearm, of a handle that isn't armed. -/
import Derived.Test.YtgemjjpmoejgdaaGreatHrv
namespace Go.Proofs.YtgemjjpmoejgdaaGreat
open Go.RowKit
set_option maxRecDepth 100000
set_option linter.unusedVariables false

theorem armed_st {c : Cf} {m : Nat → Nat} {R : ShopR} {fn ft : List Nat} {bx : Nat → List Nat} {n g : Int} (hr : RelR c m R fn ft bx) : (armedR R n g = true) ↔ (part (stA c m n) 0 2 = 1 ∧ ((part (stA c m n) 32 32 : Nat) : Int) = g) := by
  have hr' : RelR c ({ n := 0, m := m, cnt := 0, log := [], reg := [] } : St).m R fn ft bx := hr
  by_cases hnd : nodeR R n
  · obtain ⟨x, rfl, hx, ha, _⟩ := hr'.armed (g := g) hnd
    rw [ha]
    unfold stA armedW
    rw [if_pos ⟨by omega, by omega⟩, Int.toNat_natCast, decide_eq_true_iff]
  · obtain ⟨_, h2⟩ := hr'.noNode (g := g) hnd
    rw [h2]
    unfold stA
    rw [if_neg (by unfold nodeR at hnd; rw [hr.nl] at hnd; exact hnd)]
    constructor
    · intro h; cases h
    · intro h; exact absurd h.1 (by decide)
/-- Is the answer to a stale deed as it should be? -/
def okB (op : Int) (e : Ev) : Bool := !e.yes && ((decide (e.err ≠ 0)) == (decide (op = 3))) && (decide (e.nn = 0) && decide (e.ng = 0))
/-- A slice of numbers that is nobody's. -/
structure OwnL (L : Lab) (w : World) (v : Value) (xs : List Nat) : Prop where
  own : w.ownsRow 0 3 1 v xs.length (ints xs)
  lab : ∀ g, v.ownBlock = some g → L g = 0
theorem OwnL.didP {t : Nat} {L L' : Lab} {w w' : World} {v : Value} {xs : List Nat} (h : OwnL L w v xs) (hd : DidP (TP t) L w L' w') : OwnL L' w' v xs :=
  ⟨own_kept h.own fun g hg => hd.block g (own_lt h.own hg) (by rw [h.lab g hg]; unfold TP; omega), fun g hg => (hd.lab g (own_lt h.own hg)).trans (h.lab g hg)⟩
theorem OwnL.below {L : Lab} {w w' : World} {v : Value} {xs : List Nat} (h : OwnL L w v xs) (hb : Below w.heap.size w w') : OwnL L w' v xs := ⟨own_kept h.own fun g hg => hb.block g (own_lt h.own hg), h.lab⟩
theorem TaskAt.below {w w' : World} {L : Lab} {t tb : Nat} {v : Value} {s : Nat} (h : TaskAt w L t tb v s) (hb : Below w.heap.size w w') : TaskAt w' L t tb v s :=
  ⟨below_cell hb h.c0, below_cell hb h.c1, (hb.frozen (p := ⟨tb, 0, none⟩) (cell_lt h.c0)).trans h.f0, (hb.frozen (p := ⟨tb, 1, none⟩) (cell_lt h.c1)).trans h.f1, h.lb⟩
theorem fix3_facts (d : DeedR) (h : ¬ d.op = 1) : (fix3 d).hn = d.hn ∧ (fix3 d).hg = d.hg ∧ (fix3 d).time = d.time ∧ (fix3 d).user = d.user ∧ ¬ (fix3 d).op = 1 := by
  unfold fix3
  split
  · exact ⟨rfl, rfl, rfl, rfl, by show ¬ (2 : Int) = 1; decide⟩
  · exact ⟨rfl, rfl, rfl, rfl, h⟩
theorem okB_yes {op : Int} {ev : Ev} (h1 : ev.yes = false) (h2 : ev.nn = 0) (h3 : ev.ng = 0) (h4 : if op = 3 then ev.err ≠ 0 else ev.err = 0) : okB op ev = true := by
  unfold okB
  rw [h1, h2, h3]
  by_cases ho : op = 3
  · rw [if_pos ho] at h4; simp [ho, h4]
  · rw [if_neg ho] at h4; simp [ho, h4]
theorem same_list {b1 b2 : Nat} (W : World) (va vb : Value) (l : List Nat) (h1 : W.ownsRow b1 3 1 va l.length (ints l)) (h2 : W.ownsRow b2 3 1 vb l.length (ints l)) (hl : l.length ≤ 1048576) :
    Calls Tryz.prog 60 #[va, vb] W (Qt (.bool true) W) := by
  have e1 : (l.map fun (x : Nat) => (x : Int)).length = l.length := List.length_map ..
  have e2 : (l.map fun (x : Nat) => (x : Int)).map (Value.int .i64) = ints l := by unfold ints; rw [List.map_map]; rfl
  exact same_yes (base := b1) (base' := b2) W va vb (l.map fun (x : Nat) => (x : Int)) (by rw [e1, e2]; exact h1) (by rw [e1, e2]; exact h2) (by rw [e1]; omega)
theorem shop_lens {c : Cf} {m : Nat → Nat} {fn ft : List Nat} {bx : Nat → List Nat} (hok : c.Ok) (hs : Shop c m fn ft bx) : fn.length ≤ 1048576 ∧ ft.length ≤ 1048576 := by
  have h1 := nodup_length _ fn hs.nnd hs.nlt
  have h2 := nodup_length _ ft hs.tnd hs.tlt
  have hsz := hok.size_le
  unfold Cf.size Cf.connsAt Cf.ticketsAt at hsz
  omega
set_option maxHeartbeats 1000000 in
theorem stale1_con {E : G} {t n : Nat} {L : Lab} {w : World} :
    ConSim E.cf (prApp E.cf (evU nilV)) E t isEv n L w (.func (.func 54) #[] #[]) (.ret (.user ())) := by
  refine ⟨_, _, rfl, enters_of Tryz.func54 (by kernel_rfl) rfl, ?_⟩
  intro a L' w' S ha hx hg hbd
  cases a with
  | ev e =>
    obtain ⟨kind, worker, op, hn, hgn, nn, ng, time, arg, user, yes, err⟩ := e
    rw [app_ret, prApp_user, evU_ev] at hbd ⊢
    rw [show nilV () ⟨kind, worker, op, hn, hgn, nn, ng, time, arg, user, yes, err⟩ S = (S, none) from rfl]
    have hb : Below w'.heap.size w' (w'.alloc (.cells #[.int .i64 kind, .int .i64 worker, .int .i64 op, .int .i64 hn, .int .i64 hgn, .int .i64 nn, .int .i64 ng, .int .i64 time, .int .i64 arg, .int .i64 user, .bool yes, .int .i64 err] 101)) := (Below.refl _ _).alloc (Nat.le_refl _) _
    have HG := Go.Lib.hid (hg.below hb)
    have HD := Go.Lib.hid (below_did hb t L')
    show Calls _ _ #[.agg #[_, _, _, _, _, _, _, _, _, _, _, _]] _ _
    clear hg hbd hx ha
    go_enter Tryz.func54, Tryz.ntmps54
    go_wp2
    go_ret
    refine ⟨_, L', rfl, HD.out, HG.out, ?_⟩
    cases n with
    | zero => trivial
    | succ n => rfl
  | _ => exact absurd ha (by simp [isEv])
set_option maxHeartbeats 4000000 in
theorem stale2_con {E : G} {t n : Nat} {L : Lab} {w : World} {bx ob : Nat} {dop d1 d2 d3 d4 d5 : Int} (henv : Env L w [(bx, [.int .i64 dop, .int .i64 d1, .int .i64 d2, .int .i64 d3, .int .i64 d4, .int .i64 d5])]) :
    ConSim E.cf (prApp E.cf (evU (onV fun e => .bool (okB dop e)))) E t isEv n L w (.func (.func 59) #[] #[.pointer (some ⟨bx, 0, none⟩), .pointer (some ⟨ob, 0, none⟩)]) (.ret (.user (ob, 0))) := by
  refine ⟨_, _, rfl, enters_of Tryz.func59 (by kernel_rfl) rfl, ?_⟩
  intro a L' w' S ha hx hg hbd
  cases a with
  | ev e =>
    obtain ⟨kind, worker, op, hn, hgn, nn, ng, time, arg, user, yes, err⟩ := e
    rw [app_ret, prApp_user, evU_ev] at hbd ⊢
    by_cases hp : S.knows (ob, 0)
    · rw [onV_ok _ _ _ _ hp]
      have hb : Below w'.heap.size w' (w'.alloc (.cells #[.int .i64 kind, .int .i64 worker, .int .i64 op, .int .i64 hn, .int .i64 hgn, .int .i64 nn, .int .i64 ng, .int .i64 time, .int .i64 arg, .int .i64 user, .bool yes, .int .i64 err] 101)) := (Below.refl _ _).alloc (Nat.le_refl _) _
      have hg1 := hg.below hb
      obtain ⟨⟨u1, c1⟩, f1, l1⟩ := hg1.knows hp
      have hsetG := hg1.setR hp (.bool (okB dop ⟨kind, worker, op, hn, hgn, nn, ng, time, arg, user, yes, err⟩))
      have hsetS := hg1.shr_setR hp (.bool (okB dop ⟨kind, worker, op, hn, hgn, nn, ng, time, arg, user, yes, err⟩))
      have q0 : (w'.alloc (.cells #[.int .i64 kind, .int .i64 worker, .int .i64 op, .int .i64 hn, .int .i64 hgn, .int .i64 nn, .int .i64 ng, .int .i64 time, .int .i64 arg, .int .i64 user, .bool yes, .int .i64 err] 101)).cell? ⟨bx, 0, none⟩ = some (.int .i64 dop) := below_cell hb ((henv.ext hx).cell 0 0 rfl rfl)
      dsimp only at c1 f1
      show Calls _ _ #[.agg #[.int .i64 kind, .int .i64 worker, .int .i64 op, .int .i64 hn, .int .i64 hgn, .int .i64 nn, .int .i64 ng, .int .i64 time, .int .i64 arg, .int .i64 user, .bool yes, .int .i64 err], .pointer (some ⟨bx, 0, none⟩), .pointer (some ⟨ob, 0, none⟩)] _ _
      clear hg hbd hx hp ha hg1 henv
      cases yes
      · by_cases he : err = 0
        · subst he
          by_cases ho : dop = 3
          · subst ho
            have hv : okB 3 ⟨kind, worker, op, hn, hgn, nn, ng, time, arg, user, false, 0⟩ = false := by unfold okB; simp []
            rw [hv] at hsetG hsetS
            have HG := Go.Lib.hid hsetG
            have HD := Go.Lib.hid ((below_did hb t L').trans (hsetS.did t))
            rw [hv]
            clear hsetG hsetS hv hb l1
            go_enter Tryz.func59, Tryz.ntmps59
            go_wp2
            go_ret
            refine ⟨_, L', rfl, HD.out, HG.out, ?_⟩
            cases n with
            | zero => trivial
            | succ n => rfl
          · have d_ho : (dop == 3) = false := by simp [ho]
            have e_ho : (dop != 3) = true := by simp [ho]
            have n_ho : (dop = 3) = False := by simp [ho]
            by_cases h1 : nn = 0
            · subst h1
              by_cases h2 : ng = 0
              · subst h2
                have hv : okB dop ⟨kind, worker, op, hn, hgn, 0, 0, time, arg, user, false, 0⟩ = true := by unfold okB; simp [ho]
                rw [hv] at hsetG hsetS
                have HG := Go.Lib.hid hsetG
                have HD := Go.Lib.hid ((below_did hb t L').trans (hsetS.did t))
                rw [hv]
                clear hsetG hsetS hv hb l1
                go_enter Tryz.func59, Tryz.ntmps59
                go_wp2
                go_ret
                refine ⟨_, L', rfl, HD.out, HG.out, ?_⟩
                cases n with
                | zero => trivial
                | succ n => rfl
              · have d_h2 : (ng == 0) = false := by simp [h2]
                have e_h2 : (ng != 0) = true := by simp [h2]
                have n_h2 : (ng = 0) = False := by simp [h2]
                have hv : okB dop ⟨kind, worker, op, hn, hgn, 0, ng, time, arg, user, false, 0⟩ = false := by unfold okB; simp [ho, h2]
                rw [hv] at hsetG hsetS
                have HG := Go.Lib.hid hsetG
                have HD := Go.Lib.hid ((below_did hb t L').trans (hsetS.did t))
                rw [hv]
                clear hsetG hsetS hv hb l1
                go_enter Tryz.func59, Tryz.ntmps59
                go_wp2
                go_ret
                refine ⟨_, L', rfl, HD.out, HG.out, ?_⟩
                cases n with
                | zero => trivial
                | succ n => rfl
            · have d_h1 : (nn == 0) = false := by simp [h1]
              have e_h1 : (nn != 0) = true := by simp [h1]
              have n_h1 : (nn = 0) = False := by simp [h1]
              have hv : okB dop ⟨kind, worker, op, hn, hgn, nn, ng, time, arg, user, false, 0⟩ = false := by unfold okB; simp [ho, h1]
              rw [hv] at hsetG hsetS
              have HG := Go.Lib.hid hsetG
              have HD := Go.Lib.hid ((below_did hb t L').trans (hsetS.did t))
              rw [hv]
              clear hsetG hsetS hv hb l1
              go_enter Tryz.func59, Tryz.ntmps59
              go_wp2
              go_ret
              refine ⟨_, L', rfl, HD.out, HG.out, ?_⟩
              cases n with
              | zero => trivial
              | succ n => rfl
        · have d_he : (err == 0) = false := by simp [he]
          have e_he : (err != 0) = true := by simp [he]
          have n_he : (err = 0) = False := by simp [he]
          by_cases ho : dop = 3
          · subst ho
            by_cases h1 : nn = 0
            · subst h1
              by_cases h2 : ng = 0
              · subst h2
                have hv : okB 3 ⟨kind, worker, op, hn, hgn, 0, 0, time, arg, user, false, err⟩ = true := by unfold okB; simp [he]
                rw [hv] at hsetG hsetS
                have HG := Go.Lib.hid hsetG
                have HD := Go.Lib.hid ((below_did hb t L').trans (hsetS.did t))
                rw [hv]
                clear hsetG hsetS hv hb l1
                go_enter Tryz.func59, Tryz.ntmps59
                go_wp2
                go_ret
                refine ⟨_, L', rfl, HD.out, HG.out, ?_⟩
                cases n with
                | zero => trivial
                | succ n => rfl
              · have d_h2 : (ng == 0) = false := by simp [h2]
                have e_h2 : (ng != 0) = true := by simp [h2]
                have n_h2 : (ng = 0) = False := by simp [h2]
                have hv : okB 3 ⟨kind, worker, op, hn, hgn, 0, ng, time, arg, user, false, err⟩ = false := by unfold okB; simp [he, h2]
                rw [hv] at hsetG hsetS
                have HG := Go.Lib.hid hsetG
                have HD := Go.Lib.hid ((below_did hb t L').trans (hsetS.did t))
                rw [hv]
                clear hsetG hsetS hv hb l1
                go_enter Tryz.func59, Tryz.ntmps59
                go_wp2
                go_ret
                refine ⟨_, L', rfl, HD.out, HG.out, ?_⟩
                cases n with
                | zero => trivial
                | succ n => rfl
            · have d_h1 : (nn == 0) = false := by simp [h1]
              have e_h1 : (nn != 0) = true := by simp [h1]
              have n_h1 : (nn = 0) = False := by simp [h1]
              have hv : okB 3 ⟨kind, worker, op, hn, hgn, nn, ng, time, arg, user, false, err⟩ = false := by unfold okB; simp [he, h1]
              rw [hv] at hsetG hsetS
              have HG := Go.Lib.hid hsetG
              have HD := Go.Lib.hid ((below_did hb t L').trans (hsetS.did t))
              rw [hv]
              clear hsetG hsetS hv hb l1
              go_enter Tryz.func59, Tryz.ntmps59
              go_wp2
              go_ret
              refine ⟨_, L', rfl, HD.out, HG.out, ?_⟩
              cases n with
              | zero => trivial
              | succ n => rfl
          · have d_ho : (dop == 3) = false := by simp [ho]
            have e_ho : (dop != 3) = true := by simp [ho]
            have n_ho : (dop = 3) = False := by simp [ho]
            have hv : okB dop ⟨kind, worker, op, hn, hgn, nn, ng, time, arg, user, false, err⟩ = false := by unfold okB; simp [he, ho]
            rw [hv] at hsetG hsetS
            have HG := Go.Lib.hid hsetG
            have HD := Go.Lib.hid ((below_did hb t L').trans (hsetS.did t))
            rw [hv]
            clear hsetG hsetS hv hb l1
            go_enter Tryz.func59, Tryz.ntmps59
            go_wp2
            go_ret
            refine ⟨_, L', rfl, HD.out, HG.out, ?_⟩
            cases n with
            | zero => trivial
            | succ n => rfl
      · have hv : okB dop ⟨kind, worker, op, hn, hgn, nn, ng, time, arg, user, true, err⟩ = false := by unfold okB; simp []
        rw [hv] at hsetG hsetS
        have HG := Go.Lib.hid hsetG
        have HD := Go.Lib.hid ((below_did hb t L').trans (hsetS.did t))
        rw [hv]
        clear hsetG hsetS hv hb l1
        go_enter Tryz.func59, Tryz.ntmps59
        go_wp2
        go_ret
        refine ⟨_, L', rfl, HD.out, HG.out, ?_⟩
        cases n with
        | zero => trivial
        | succ n => rfl
    · rw [show onV (fun e => Value.bool (okB dop e)) (ob, 0) ⟨kind, worker, op, hn, hgn, nn, ng, time, arg, user, yes, err⟩ S = (S.burst, none) from if_neg hp] at hbd
      exact (St.burst_no hbd).elim
  | _ => exact absurd ha (by simp [isEv])
set_option maxHeartbeats 8000000 in
theorem law17_ChangeStale (x : Nat → Int) (ds : List DeedR) (v1 : Value) (d : DeedR) (w : World) (hrow : DeedsRow w v1 ds) (hds : ∀ d ∈ ds, d.time < 9223372036854775808 ∧ d.user < 9223372036854775808) (hd : d.time < 9223372036854775808 ∧ d.user < 9223372036854775808) :
    Calls Tryz.prog 7 #[.agg #[.int .i64 (x 0), .int .i64 (x 1), .int .i64 (x 2), .int .i64 (x 3), .int .i64 (x 4), .int .i64 (x 5), .int .i64 (x 6), .int .i64 (x 7), .int .i64 (x 8), .int .i64 (x 9), .int .i64 (x 10), .int .i64 (x 11), .int .i64 (x 12)], v1, .agg #[.int .i64 d.op, .int .i64 d.hn, .int .i64 d.hg, .int .i64 d.time, .int .i64 d.arg, .int .i64 d.user]] w fun e w' => e = .returned (.bool true) ∧ Below w.heap.size w w' := by
  have hb0 : Below w.heap.size w ((w.alloc (.cells #[.int .i64 (x 0), .int .i64 (x 1), .int .i64 (x 2), .int .i64 (x 3), .int .i64 (x 4), .int .i64 (x 5), .int .i64 (x 6), .int .i64 (x 7), .int .i64 (x 8), .int .i64 (x 9), .int .i64 (x 10), .int .i64 (x 11), .int .i64 (x 12)] 23)).alloc (.cells #[.int .i64 d.op, .int .i64 d.hn, .int .i64 d.hg, .int .i64 d.time, .int .i64 d.arg, .int .i64 d.user] 38)) := ((Below.refl _ _).alloc (Nat.le_refl _) _).alloc (by simp) _
  have HEC : Hid (Env (fun _ => 0) ((w.alloc (.cells #[.int .i64 (x 0), .int .i64 (x 1), .int .i64 (x 2), .int .i64 (x 3), .int .i64 (x 4), .int .i64 (x 5), .int .i64 (x 6), .int .i64 (x 7), .int .i64 (x 8), .int .i64 (x 9), .int .i64 (x 10), .int .i64 (x 11), .int .i64 (x 12)] 23)).alloc (.cells #[.int .i64 d.op, .int .i64 d.hn, .int .i64 d.hg, .int .i64 d.time, .int .i64 d.arg, .int .i64 d.user] 38)) [(w.heap.size + 1, [.int .i64 d.op, .int .i64 d.hn, .int .i64 d.hg, .int .i64 d.time, .int .i64 d.arg, .int .i64 d.user]), (w.heap.size, [.int .i64 (x 0), .int .i64 (x 1), .int .i64 (x 2), .int .i64 (x 3), .int .i64 (x 4), .int .i64 (x 5), .int .i64 (x 6), .int .i64 (x 7), .int .i64 (x 8), .int .i64 (x 9), .int .i64 (x 10), .int .i64 (x 11), .int .i64 (x 12)])]) := Go.Lib.hid (Env.alloc_at (Env.alloc_at (Env.nil _ w) (fun _ _ => rfl) [.int .i64 (x 0), .int .i64 (x 1), .int .i64 (x 2), .int .i64 (x 3), .int .i64 (x 4), .int .i64 (x 5), .int .i64 (x 6), .int .i64 (x 7), .int .i64 (x 8), .int .i64 (x 9), .int .i64 (x 10), .int .i64 (x 11), .int .i64 (x 12)] 23 (b := w.heap.size) rfl) (fun _ _ => rfl) [.int .i64 d.op, .int .i64 d.hn, .int .i64 d.hg, .int .i64 d.time, .int .i64 d.arg, .int .i64 d.user] 38 (by simp))
  have HB := Go.Lib.hid hb0
  have HR := Go.Lib.hid (hrow.below hb0)
  have HS := Go.Lib.hid (law15_Small x)
  have HBG := Go.Lib.hid (law15_Begin x)
  have HDS := Go.Lib.hid hds
  have HD0 := Go.Lib.hid hd
  obtain ⟨p1, c1, rfl, _⟩ := id hrow
  clear hb0 hrow hds hd
  go_enter Tryz.func7, Tryz.ntmps7
  go_wp2_with fail
  generalize ((w.alloc (.cells #[.int .i64 (x 0), .int .i64 (x 1), .int .i64 (x 2), .int .i64 (x 3), .int .i64 (x 4), .int .i64 (x 5), .int .i64 (x 6), .int .i64 (x 7), .int .i64 (x 8), .int .i64 (x 9), .int .i64 (x 10), .int .i64 (x 11), .int .i64 (x 12)] 23)).alloc (.cells #[.int .i64 d.op, .int .i64 d.hn, .int .i64 d.hg, .int .i64 d.time, .int .i64 d.arg, .int .i64 d.user] 38)) = w0 at *
  generalize hdb : w.heap.size + 1 = db at *
  generalize hcb : w.heap.size = cb at HEC
  clear hdb
  refine (law17_speaks _).mono ?_
  rintro e w1 ⟨rfl, hb1⟩
  replace HB := Go.Lib.hid (HB.out.trans (hb1.mono HB.out.size))
  replace HEC := Go.Lib.hid (HEC.out.below hb1)
  replace HR := Go.Lib.hid (HR.out.below hb1)
  clear hb1
  have e0 := HEC.out.cell 1 0 rfl rfl
  have e1 := HEC.out.cell 1 1 rfl rfl
  have e2 := HEC.out.cell 1 2 rfl rfl
  have e3 := HEC.out.cell 1 3 rfl rfl
  have e4 := HEC.out.cell 1 4 rfl rfl
  have e5 := HEC.out.cell 1 5 rfl rfl
  have e6 := HEC.out.cell 1 6 rfl rfl
  have e7 := HEC.out.cell 1 7 rfl rfl
  have e8 := HEC.out.cell 1 8 rfl rfl
  have e9 := HEC.out.cell 1 9 rfl rfl
  have e10 := HEC.out.cell 1 10 rfl rfl
  have e11 := HEC.out.cell 1 11 rfl rfl
  have e12 := HEC.out.cell 1 12 rfl rfl
  go_wp2_with fail
  clear e0 e1 e2 e3 e4 e5 e6 e7 e8 e9 e10 e11 e12
  refine (HS.out _).mono ?_
  rintro e w2 ⟨rfl, hb1⟩
  replace HB := Go.Lib.hid (HB.out.trans (hb1.mono HB.out.size))
  replace HEC := Go.Lib.hid (HEC.out.below hb1)
  replace HR := Go.Lib.hid (HR.out.below hb1)
  clear hb1
  clear HS
  by_cases hsm : smallI x
  · rw [decide_eq_true hsm]
    by_cases hln : 30 < ds.length
    · have hl1 : (30 : Int) < (ds.length : Int) := by omega
      clear HBG HEC HR hln
      go_wp2_with fail
      refine (law17_speaks _).mono ?_
      rintro e w3 ⟨rfl, hb1⟩
      have HB9 := Go.Lib.hid (HB.out.trans (hb1.mono HB.out.size))
      clear hb1
      go_wp2
      go_ret
      exact ⟨rfl, HB9.out⟩
    · have hl1 : ((30 : Int) < (ds.length : Int)) = False := by simp; omega
      have HBE := Go.Lib.hid (HBG.out hsm)
      have hok := cfOf_ok hsm.1
      have hlo := fun i (hi : i < 13) => (hsm.1 i hi).1
      have g0 : (1 : Int) ≤ x 0 := hlo 0 (by decide)
      have g3 : (1 : Int) ≤ x 3 := hlo 3 (by decide)
      have g4 : (1 : Int) ≤ x 4 := hlo 4 (by decide)
      have k0 : x 0 ≤ 6 := hsm.2.1
      have k4 : x 4 ≤ 30 := hsm.2.2.2.2.2.1
      have hx0 : x 0 = ((cfOf x).workers : Int) := by show x 0 = ((x 0).toNat : Int); omega
      have hx4 : x 4 = ((cfOf x).tickets : Int) := by show x 4 = ((x 4).toNat : Int); omega
      clear HBG hsm hlo
      generalize hc : cfOf x = c at *
      clear hc
      have hw0 : 0 < c.workers := hok.w1
      have hw6 : c.workers ≤ 6 := by omega
      have ht30 : c.tickets ≤ 30 := by omega
      have HX := Go.Lib.hid (And.intro hx0 hx4)
      clear hx0 hx4 k0 k4 g0 g3 g4
      have e0 := HEC.out.cell 1 0 rfl rfl
      have e1 := HEC.out.cell 1 1 rfl rfl
      have e2 := HEC.out.cell 1 2 rfl rfl
      have e3 := HEC.out.cell 1 3 rfl rfl
      have e4 := HEC.out.cell 1 4 rfl rfl
      have e5 := HEC.out.cell 1 5 rfl rfl
      have e6 := HEC.out.cell 1 6 rfl rfl
      have e7 := HEC.out.cell 1 7 rfl rfl
      have e8 := HEC.out.cell 1 8 rfl rfl
      have e9 := HEC.out.cell 1 9 rfl rfl
      have e10 := HEC.out.cell 1 10 rfl rfl
      have e11 := HEC.out.cell 1 11 rfl rfl
      have e12 := HEC.out.cell 1 12 rfl rfl
      go_wp2_with fail
      clear e0 e1 e2 e3 e4 e5 e6 e7 e8 e9 e10 e11 e12
      refine (HBE.out _).mono ?_
      rintro e w3 ⟨E, L, wb, rfl, hb3, hborn⟩
      obtain ⟨hcf, hgood, hbl, hold, hnr, hek⟩ := hborn
      obtain ⟨ek, ep, ea, ec, cf⟩ := E
      obtain rfl : cf = c := hcf
      have hb0 := HB.out.trans (hb3.mono HB.out.size)
      have HB3 := Go.Lib.hid (hb0.trans (hbl.mono hb0.size))
      have HOLD : Hid (∀ b, b < w.heap.size → L b = 0) := fun b hlt => hold b (Nat.lt_of_lt_of_le hlt hb0.size)
      have hb3' := hb3.trans (hbl.mono hb3.size)
      have HE : Hid (Env L w3 [(db, [.int .i64 d.op, .int .i64 d.hn, .int .i64 d.hg, .int .i64 d.time, .int .i64 d.arg, .int .i64 d.user]), (cb, [.int .i64 (x 0), .int .i64 (x 1), .int .i64 (x 2), .int .i64 (x 3), .int .i64 (x 4), .int .i64 (x 5), .int .i64 (x 6), .int .i64 (x 7), .int .i64 (x 8), .int .i64 (x 9), .int .i64 (x 10), .int .i64 (x 11), .int .i64 (x 12)])]) := Go.Lib.hid (fun p hp => ⟨hold _ (Nat.lt_of_lt_of_le (HEC.out p hp).2.1 hb3.size), (HEC.out.below hb3' p hp).2⟩)
      have HG := Go.Lib.hid hgood
      replace HR := Go.Lib.hid (HR.out.below hb3')
      clear hgood hbl hold hnr hek hb0 hb3 hb3' HBE HB HEC
      have htab : DeedsTab (w3.alloc (.cells #[.slice p1 ds.length c1] 24)) 0 (.slice (some ⟨w3.heap.size, 0, none⟩) 1 1) [ds] := by
        refine ⟨_, _, rfl, fun i ds' hi => ?_⟩
        cases i with
        | zero => cases hi; exact ⟨_, _, rfl, by show World.cell? _ ⟨w3.heap.size, 0, none⟩ = _; simp, HR.out.below ((Below.refl _ _).alloc (Nat.le_refl _) _), fun g _ => Nat.zero_le _⟩
        | succ i => cases hi
      have HTB := Go.Lib.hid htab
      have hb4 : Below w3.heap.size w3 (w3.alloc (.cells #[.slice p1 ds.length c1] 24)) := (Below.refl _ _).alloc (Nat.le_refl _) _
      have HB4 := Go.Lib.hid hb4
      clear htab hb4
      go_wp2_with fail
      refine (three_any [ds] _ _ HTB.out (by simp) (by intro ds' h; simp at h; subst h; omega)).mono ?_
      rintro e w4 ⟨v, rfl, htab, hb5⟩
      have hb6 := HB4.out.trans (hb5.mono HB4.out.size)
      obtain ⟨p4, c4, rfl, ht4⟩ := htab
      obtain ⟨a4, u4, rfl, hu4, hr4, hg4⟩ := ht4 0 _ rfl
      have hu4' : w4.cell? a4 = some u4 := hu4
      dsimp only at hr4
      replace hr4 := hr4.lab (L := L) (fun g hg => HG.out.new g (Nat.le_trans HB4.out.size (hg4 g hg)))
      obtain ⟨p5, c5, rfl, _⟩ := id hr4
      replace HG := Go.Lib.hid (HG.out.below hb6)
      replace HE := Go.Lib.hid (HE.out.below hb6)
      replace HB3 := Go.Lib.hid (HB3.out.trans (hb6.mono HB3.out.size))
      clear hb5 hb6 HB4 HTB ht4 hg4 HR
      rw [List.length_map] at hu4 hu4'
      have hdl : (ds.map fix3).length = ds.length := List.length_map ..
      generalize hds3 : ds.map fix3 = ds3 at *
      have HDS3 : Hid (∀ d ∈ ds3, d.time < 9223372036854775808 ∧ d.user < 9223372036854775808) := Go.Lib.hid (fun d hd => by
        rw [← hds3] at hd
        obtain ⟨d0, h0, rfl⟩ := List.mem_map.1 hd
        have := HDS.out d0 h0
        unfold fix3
        split <;> exact this)
      clear hds3 HDS
      rw [hdl] at hr4
      generalize ds.length = n at *
      have HRL := Go.Lib.hid hr4
      clear hr4
      go_wp2
      go_loopw [8, 9, 10, 41] (fun _ _ _ i wr => ∃ (j : Nat) (S : St) (L : Lab) (R : ShopR) (fn ft : List Nat) (bx : Nat → List Nat), i = .int .i64 j ∧ j ≤ n ∧ Good ⟨ek, ep, ea, ec, cf⟩ L S wr ∧ S.n = cf.size ∧ RelR cf S.m R fn ft bx ∧ S.cnt ≤ 300 * j ∧ S.log.length ≤ j ∧ Below w.heap.size w wr ∧ (∀ b, b < w.heap.size → L b = 0) ∧ Env L wr [(db, [.int .i64 d.op, .int .i64 d.hn, .int .i64 d.hg, .int .i64 d.time, .int .i64 d.arg, .int .i64 d.user]), (cb, [.int .i64 (x 0), .int .i64 (x 1), .int .i64 (x 2), .int .i64 (x 3), .int .i64 (x 4), .int .i64 (x 5), .int .i64 (x 6), .int .i64 (x 7), .int .i64 (x 8), .int .i64 (x 9), .int .i64 (x 10), .int .i64 (x 11), .int .i64 (x 12)])] ∧ DeedsRowL L wr (.slice p5 n c5) ds3) (fun _ _ _ i _ => n - (intOf i).toNat)
      case atStart => exact ⟨0, S0 cf, L, freshR cf, _, _, _, rfl, Nat.zero_le _, HG.out, rfl, rel_fresh hok, Nat.le_refl _, Nat.le_refl _, HB3.out, HOLD.out, HE.out, HRL.out⟩
      case round =>
        obtain ⟨j, S, L, R, fn, ft, bx, rfl, hj, hg, hSn, hrel, hcnt, hlog, hbw, hold, henv, hrow⟩ := hrel
        have HG1 := Go.Lib.hid hg; have HSN := Go.Lib.hid hSn; have HRE := Go.Lib.hid hrel; have HCN := Go.Lib.hid hcnt; have HLO := Go.Lib.hid hlog; have HBW := Go.Lib.hid hbw; have HOL := Go.Lib.hid hold; have HEN := Go.Lib.hid henv; have HRW := Go.Lib.hid hrow
        clear hg hSn hrel hcnt hlog hbw hold henv hrow HG HB3 HOLD HE HRL
        by_cases hlt : j < n
        · have hj1 : (0 : Int) ≤ (j : Int) := by omega
          have hj2 : (j : Int) < (n : Int) := by omega
          have hjl : j < ds3.length := by omega
          have hgi : ds3[j]? = some ds3[j] := List.getElem?_eq_getElem hjl
          have HDB := Go.Lib.hid (HDS3.out ds3[j] (List.getElem_mem hjl))
          generalize ds3[j] = dj at *
          obtain ⟨pq, cq, hpq, hcells⟩ := HRW.out
          injection hpq with hp1 hp2 hp3
          subst hp1
          obtain ⟨a5, rfl, _, hda⟩ := hcells j dj hgi
          obtain ⟨c0, c1', c2, c3, c4', c5'⟩ := hda
          clear hcells hp2 hp3 hgi
          obtain ⟨op, hn', hg', tm, arg, us⟩ := dj
          dsimp only at c0 c1' c2 c3 c4' c5' HDB
          have hb1 : Below wr.heap.size wr (wr.alloc (.cells #[.int .i64 op, .int .i64 hn', .int .i64 hg', .int .i64 tm, .int .i64 arg, .int .i64 us] 38)) := (Below.refl _ _).alloc (Nat.le_refl _) _
          have HE1 : Hid (Env L (wr.alloc (.cells #[.int .i64 op, .int .i64 hn', .int .i64 hg', .int .i64 tm, .int .i64 arg, .int .i64 us] 38)) [(wr.heap.size, [.int .i64 op, .int .i64 hn', .int .i64 hg', .int .i64 tm, .int .i64 arg, .int .i64 us]), (db, [.int .i64 d.op, .int .i64 d.hn, .int .i64 d.hg, .int .i64 d.time, .int .i64 d.arg, .int .i64 d.user]), (cb, [.int .i64 (x 0), .int .i64 (x 1), .int .i64 (x 2), .int .i64 (x 3), .int .i64 (x 4), .int .i64 (x 5), .int .i64 (x 6), .int .i64 (x 7), .int .i64 (x 8), .int .i64 (x 9), .int .i64 (x 10), .int .i64 (x 11), .int .i64 (x 12)])]) := Go.Lib.hid (Env.alloc_at HEN.out (fun b hb => HG1.out.new b hb) [.int .i64 op, .int .i64 hn', .int .i64 hg', .int .i64 tm, .int .i64 arg, .int .i64 us] 38 (b := wr.heap.size) rfl)
          have HBX := Go.Lib.hid hb1
          go_wp2
          replace HG1 := Go.Lib.hid (HG1.out.below hb1)
          replace HRW := Go.Lib.hid (HRW.out.below hb1)
          replace HBW := Go.Lib.hid (HBW.out.trans (hb1.mono HBW.out.size))
          clear c0 c1' c2 c3 c4' c5' HEN HBX hb1
          generalize (wr.alloc (.cells #[.int .i64 op, .int .i64 hn', .int .i64 hg', .int .i64 tm, .int .i64 arg, .int .i64 us] 38)) = W1 at *
          generalize wr.heap.size = xb at *
          obtain ⟨km, hkm⟩ : ∃ km, km = j % cf.workers := ⟨_, rfl⟩
          have hml : km < cf.workers := hkm ▸ Nat.mod_lt _ hw0
          have HKM := Go.Lib.hid hkm
          clear hkm
          have hdone := deed_done (V := nilV) (r := ()) (d := ⟨op, hn', hg', tm, arg, us⟩) nilV_mono hok hml HSN.out HRE.out HDB.out.2
          obtain ⟨dd, T, fn', ft', bx', hd1, hd2, hrelT, hTn, hTr, hTs, hTc, ⟨eT, hTl⟩, hrunT⟩ := hdone.ex
          obtain ⟨m, hm1, hm2, hrun⟩ := hrunT T rfl ⟨by have := HCN.out; omega, by have := HLO.out; rw [hTl, List.length_append]; show S.log.length + 1 ≤ _; omega⟩
          have HRUN := Go.Lib.hid hrun; have HRT := Go.Lib.hid hrelT; have HTN := Go.Lib.hid hTn; have HTC := Go.Lib.hid hTc; have HTL := Go.Lib.hid hTl
          clear hdone hrunT hrun hrelT hTn hTr hTs hTc hTl
          have HDO : Hid (∀ W, Below W1.heap.size W1 W → Calls Tryz.prog 53 #[.pointer (some ⟨ek, 0, none⟩), .int .i64 (km : Int), .agg #[.int .i64 op, .int .i64 hn', .int .i64 hg', .int .i64 tm, .int .i64 arg, .int .i64 us], .func (.func 54) #[] #[]] W (Post cf (prApp cf (evU nilV)) ⟨ek, ep, ea, ec, cf⟩ 0 410 L W (S, some (doesK cf km ⟨op, hn', hg', tm, arg, us⟩ (.user ()))))) := Go.Lib.hid (fun W hW =>
            does_any (t := 0) (m := 410) (E := ⟨ek, ep, ea, ec, cf⟩) (d := ⟨op, hn', hg', tm, arg, us⟩) (r := ()) (wk := (km : Int)) nilV_mono (HG1.out.below hW) (stale1_con (E := ⟨ek, ep, ea, ec, cf⟩)) (by omega) HDB.out.1)
          have q0 := HE1.out.cell 0 0 rfl rfl
          have q1 := HE1.out.cell 0 1 rfl rfl
          have q2 := HE1.out.cell 0 2 rfl rfl
          have q3 := HE1.out.cell 0 3 rfl rfl
          have q4 := HE1.out.cell 0 4 rfl rfl
          have q5 := HE1.out.cell 0 5 rfl rfl
          have qc0 : W1.cell? ⟨cb, 0, none⟩ = some (.int .i64 (cf.workers : Int)) := by rw [← HX.out.1]; exact HE1.out.cell 2 0 rfl rfl
          have q0' : ∀ d os, (Sort.grow (redrawn W1 d) os).cell? ⟨xb, 0, none⟩ = some _ := fun d os => cell_regrown q0 d os
          have q1' : ∀ d os, (Sort.grow (redrawn W1 d) os).cell? ⟨xb, 1, none⟩ = some _ := fun d os => cell_regrown q1 d os
          have q2' : ∀ d os, (Sort.grow (redrawn W1 d) os).cell? ⟨xb, 2, none⟩ = some _ := fun d os => cell_regrown q2 d os
          have q3' : ∀ d os, (Sort.grow (redrawn W1 d) os).cell? ⟨xb, 3, none⟩ = some _ := fun d os => cell_regrown q3 d os
          have q4' : ∀ d os, (Sort.grow (redrawn W1 d) os).cell? ⟨xb, 4, none⟩ = some _ := fun d os => cell_regrown q4 d os
          have q5' : ∀ d os, (Sort.grow (redrawn W1 d) os).cell? ⟨xb, 5, none⟩ = some _ := fun d os => cell_regrown q5 d os
          have qc0' : ∀ d os, (Sort.grow (redrawn W1 d) os).cell? ⟨cb, 0, none⟩ = some _ := fun d os => cell_regrown qc0 d os
          have hz3 : (cf.workers = 0) = False := by simp; omega
          have hz4 : ((cf.workers : Int) = 0) = False := by simp; omega
          have hz1 : ((cf.workers : Int) == 0) = false := by simp; omega
          have hz2 : decide ((cf.workers : Int) = 0) = false := by simp; omega
          have hm1' : (j : Int).tmod (cf.workers : Int) = (km : Int) := by rw [Int.tmod_eq_emod_of_nonneg (by omega), HKM.out]; exact (Int.natCast_emod _ _).symm
          have hm2' : (j : Int) % (cf.workers : Int) = (km : Int) := by rw [HKM.out]; exact (Int.natCast_emod _ _).symm
          have hwb2 : IntKind.i64.wrap (km : Int) = (km : Int) := IntWalk.i64_in _ (by omega)
          refine wp_region_below_tail 6 (by kernel_rfl) (by kernel_rfl) ?_
          simp only [List.take_succ_cons, List.take_zero, List.drop_succ_cons, List.drop_zero]
          repeat (go_big_quiet_step (first
            | fail))
          refine wpQuiet_nil ?_
          intro W3 hw'
          obtain ⟨p, rfl⟩ := hw'
          have hb := below_regrown W1 p.d p.os
          have HCD := Go.Lib.hid (HDO.out _ hb)
          have HD3 := Go.Lib.hid (below_did hb 0 L)
          clear q0 q1 q2 q3 q4 q5 qc0 q0' q1' q2' q3' q4' q5' qc0' hb hz1 hz2 hz3 hz4 hm1' hm2' hwb2 HDO
          generalize Sort.grow (redrawn W1 p.d) p.os = W3 at *
          go_wp2_with fail
          refine HCD.out.mono ?_
          rintro e w7 ⟨v, L7, rfl, hd7, hg7, hc7⟩
          have HD7 := Go.Lib.hid (HD3.out.trans hd7)
          have HG7 := Go.Lib.hid hg7
          have HC7 := Go.Lib.hid hc7
          obtain ⟨f, cap, rfl, _, _⟩ := hc7
          clear hd7 hg7 HCD HD3
          have HT := Go.Lib.hid (HG7.out.task 0 (.func (.func f) #[] cap) 142)
          go_wp2_with fail
          refine (step_New f #[] cap w7).mono ?_
          rintro e w8 ⟨rfl, rfl⟩
          generalize (fun b => if b = w7.heap.size then 5000 + 0 else L7 b) = L8 at *
          have hd8 : DidP (TP 0) L7 w7 L8 (w7.alloc (.cells #[.func (.func f) #[] cap, .int .i64 0] 142)) := ⟨rfl, rfl, rfl, by simp, fun b hb _ => Below.heap_alloc _ _ _ hb, HT.out.2.2.lab⟩
          have HK8 := Go.Lib.hid (CodeSim.ext cf (prApp cf (evU nilV)) _ 0 HC7.out HT.out.2.2)
          have HE8 := Go.Lib.hid ((HE1.out.toDidP (HD7.out.toP.trans hd8)).sub (env' := [(db, [.int .i64 d.op, .int .i64 d.hn, .int .i64 d.hg, .int .i64 d.time, .int .i64 d.arg, .int .i64 d.user]), (cb, [.int .i64 (x 0), .int .i64 (x 1), .int .i64 (x 2), .int .i64 (x 3), .int .i64 (x 4), .int .i64 (x 5), .int .i64 (x 6), .int .i64 (x 7), .int .i64 (x 8), .int .i64 (x 9), .int .i64 (x 10), .int .i64 (x 11), .int .i64 (x 12)])]) (by simp))
          have HRW8 := Go.Lib.hid (HRW.out.didP (HD7.out.toP.trans hd8))
          have HB8 := Go.Lib.hid ((HD7.out.toP.trans hd8).below_old HBW.out (Nat.le_refl _) HOL.out)
          have HOL8 : Hid (∀ b, b < w.heap.size → L8 b = 0) := Go.Lib.hid (fun b hb => ((HD7.out.toP.trans hd8).lab b (Nat.lt_of_lt_of_le hb HBW.out.size)).trans (HOL.out b hb))
          clear hd8 HC7 HE1 HRW HBW HOL HD7 HG7 HG1
          generalize (w7.alloc (.cells #[.func (.func f) #[] cap, .int .i64 0] 142)) = W8 at *
          generalize w7.heap.size = tb at *
          have qc4 : W8.cell? ⟨cb, 4, none⟩ = some (.int .i64 (cf.tickets : Int)) := by rw [← HX.out.2]; exact HE8.out.cell 1 4 rfl rfl
          have hw1 : IntKind.i64.wrap (10 * (cf.tickets : Int)) = 10 * (cf.tickets : Int) := IntWalk.i64_in _ (by omega)
          have hw2 : IntKind.i64.wrap (60 + 10 * (cf.tickets : Int)) = ((60 + 10 * cf.tickets : Nat) : Int) := by rw [IntWalk.i64_in _ (by omega)]; omega
          go_wp2_with fail
          clear qc4 hw1 hw2
          have HF : Calls Tryz.prog 20 #[.pointer (some ⟨tb, 0, none⟩), .int .i64 ((60 + 10 * cf.tickets : Nat) : Int)] W8 _ := task_finish (most := 60 + 10 * cf.tickets) HT.out.1 HT.out.2.1 (by decide) (by omega) (by omega) (by decide) (CodeSim.le cf (prApp cf (evU nilV)) _ 0 HK8.out (by omega)) HRUN.out
          refine HF.mono ?_
          rintro e w9 ⟨v', L9, rfl, hg9, hd9, ht9⟩
          have HG9 := Go.Lib.hid hg9
          have HE9 := Go.Lib.hid (HE8.out.toDidP hd9)
          have HRW9 := Go.Lib.hid (HRW8.out.didP hd9)
          have HB9 := Go.Lib.hid (hd9.below_old HB8.out (Nat.le_refl _) HOL8.out)
          have HOL9 : Hid (∀ b, b < w.heap.size → L9 b = 0) := Go.Lib.hid (fun b hb => (hd9.lab b (Nat.lt_of_lt_of_le hb HB8.out.size)).trans (HOL8.out b hb))
          clear hg9 hd9 ht9 HF HT HK8 HE8 HRW8 HB8 HOL8
          go_wp2
          refine ⟨⟨j + 1, T, L9, _, fn', ft', bx', by go_num, by omega, HG9.out, HTN.out.trans HSN.out, HRT.out, by have := HTC.out; have := HCN.out; omega, by have := HLO.out; rw [HTL.out, List.length_append]; show S.log.length + 1 ≤ _; omega, HB9.out, HOL9.out, HE9.out, HRW9.out⟩, by simp [intOf]; omega⟩
        · have hjn : ((j : Int) < (n : Int)) = False := by simp; omega
          clear HRW HDS3 hlt
          have f0 := HEN.out.cell 0 0 rfl rfl
          have f1 := HEN.out.cell 0 1 rfl rfl
          have f2 := HEN.out.cell 0 2 rfl rfl
          have f3 := HEN.out.cell 0 3 rfl rfl
          have f4 := HEN.out.cell 0 4 rfl rfl
          have f5 := HEN.out.cell 0 5 rfl rfl
          go_wp2_with fail
          refine (law12_Of d.hn d.hg _).mono ?_
          rintro e w4' ⟨rfl, hb1⟩
          clear f0 f1 f2 f3 f4 f5 hjn
          replace HG1 := Go.Lib.hid (HG1.out.below hb1)
          replace HEN := Go.Lib.hid (HEN.out.below hb1)
          replace HBW := Go.Lib.hid (HBW.out.trans (hb1.mono HBW.out.size))
          clear hb1
          have hba : Below w4'.heap.size w4' (w4'.alloc (.cells #[.int .i64 d.hn, .int .i64 d.hg] 46)) := (Below.refl _ _).alloc (Nat.le_refl _) _
          have HEA : Hid (Env L (w4'.alloc (.cells #[.int .i64 d.hn, .int .i64 d.hg] 46)) [(w4'.heap.size, [.int .i64 d.hn, .int .i64 d.hg]), (db, [.int .i64 d.op, .int .i64 d.hn, .int .i64 d.hg, .int .i64 d.time, .int .i64 d.arg, .int .i64 d.user]), (cb, [.int .i64 (x 0), .int .i64 (x 1), .int .i64 (x 2), .int .i64 (x 3), .int .i64 (x 4), .int .i64 (x 5), .int .i64 (x 6), .int .i64 (x 7), .int .i64 (x 8), .int .i64 (x 9), .int .i64 (x 10), .int .i64 (x 11), .int .i64 (x 12)])]) := Go.Lib.hid (Env.alloc_at HEN.out (fun b hb => HG1.out.new b hb) [.int .i64 d.hn, .int .i64 d.hg] 46 (b := w4'.heap.size) rfl)
          have h0 : (w4'.alloc (.cells #[.int .i64 d.hn, .int .i64 d.hg] 46)).cell? ⟨w4'.heap.size, 0, none⟩ = some (.int .i64 d.hn) := HEA.out.cell 0 0 rfl rfl
          go_wp2_with fail
          clear h0
          replace HG1 := Go.Lib.hid (HG1.out.below hba)
          replace HBW := Go.Lib.hid (HBW.out.trans (hba.mono HBW.out.size))
          clear hba HEN
          generalize (w4'.alloc (.cells #[.int .i64 d.hn, .int .i64 d.hg] 46)) = W5 at *
          generalize w4'.heap.size = hb5 at *
          refine (core_state_any HG1.out HSN.out d.hn).mono ?_
          rintro e w6 ⟨rfl, hb1⟩
          have hst0 : (armedR R d.hn d.hg = true) ↔ (part (stA cf S.m d.hn) 0 2 = 1 ∧ ((part (stA cf S.m d.hn) 32 32 : Nat) : Int) = d.hg) := armed_st HRE.out
          have HST := Go.Lib.hid (show stA cf S.m d.hn = stA cf S.m d.hn from rfl)
          dsimp only
          have HST2 : ∃ st, st = stA cf S.m d.hn := ⟨_, rfl⟩
          obtain ⟨st, hstq⟩ := HST2
          rw [← hstq] at hst0 ⊢
          replace HST := Go.Lib.hid hstq
          clear hstq
          replace HG1 := Go.Lib.hid (HG1.out.below hb1)
          replace HEA := Go.Lib.hid (HEA.out.below hb1)
          replace HBW := Go.Lib.hid (HBW.out.trans (hb1.mono HBW.out.size))
          clear hb1
          generalize hgn : part st 32 32 = gn at *
          generalize htm : part st 2 30 = tm at *
          generalize hsm' : part st 0 2 = sm at *
          have hba : Below w6.heap.size w6 (w6.alloc (.cells #[.int .i64 (gn : Int), .int .i64 (tm : Int), .int .i64 (sm : Int)] 105)) := (Below.refl _ _).alloc (Nat.le_refl _) _
          have HEB : Hid (Env L (w6.alloc (.cells #[.int .i64 (gn : Int), .int .i64 (tm : Int), .int .i64 (sm : Int)] 105)) [(w6.heap.size, [.int .i64 (gn : Int), .int .i64 (tm : Int), .int .i64 (sm : Int)]), (hb5, [.int .i64 d.hn, .int .i64 d.hg]), (db, [.int .i64 d.op, .int .i64 d.hn, .int .i64 d.hg, .int .i64 d.time, .int .i64 d.arg, .int .i64 d.user]), (cb, [.int .i64 (x 0), .int .i64 (x 1), .int .i64 (x 2), .int .i64 (x 3), .int .i64 (x 4), .int .i64 (x 5), .int .i64 (x 6), .int .i64 (x 7), .int .i64 (x 8), .int .i64 (x 9), .int .i64 (x 10), .int .i64 (x 11), .int .i64 (x 12)])]) := Go.Lib.hid (Env.alloc_at HEA.out (fun b hb => HG1.out.new b hb) [.int .i64 (gn : Int), .int .i64 (tm : Int), .int .i64 (sm : Int)] 105 (b := w6.heap.size) rfl)
          have s0 : (w6.alloc (.cells #[.int .i64 (gn : Int), .int .i64 (tm : Int), .int .i64 (sm : Int)] 105)).cell? ⟨w6.heap.size, 0, none⟩ = some (.int .i64 (gn : Int)) := HEB.out.cell 0 0 rfl rfl
          have s2 : (w6.alloc (.cells #[.int .i64 (gn : Int), .int .i64 (tm : Int), .int .i64 (sm : Int)] 105)).cell? ⟨w6.heap.size, 2, none⟩ = some (.int .i64 (sm : Int)) := HEB.out.cell 0 2 rfl rfl
          have h1 : (w6.alloc (.cells #[.int .i64 (gn : Int), .int .i64 (tm : Int), .int .i64 (sm : Int)] 105)).cell? ⟨hb5, 1, none⟩ = some (.int .i64 d.hg) := HEB.out.cell 1 1 rfl rfl
          have f0 : (w6.alloc (.cells #[.int .i64 (gn : Int), .int .i64 (tm : Int), .int .i64 (sm : Int)] 105)).cell? ⟨db, 0, none⟩ = some (.int .i64 d.op) := HEB.out.cell 2 0 rfl rfl
          replace HG1 := Go.Lib.hid (HG1.out.below hba)
          replace HBW := Go.Lib.hid (HBW.out.trans (hba.mono HBW.out.size))
          clear hba HEA
          by_cases hop : d.op = 1
          · have d_op : (d.op == 1) = true := by simp [hop]
            have hopT : decide (d.op = 1) = true := by simp [hop]
            by_cases hs1 : sm = 1
            · by_cases hg1 : (gn : Int) = d.hg
              · have d_s : ((sm : Int) == 1) = true := by simp [hs1]
                have d_g : ((gn : Int) == d.hg) = true := by simp [hg1]
                clear hst0 hs1 hg1 hop
                go_wp2
                go_ret
                exact ⟨rfl, HBW.out⟩
              · have d_s : ((sm : Int) == 1) = true := by simp [hs1]
                have d_g : ((gn : Int) == d.hg) = false := by simp [hg1]
                clear hst0 hs1 hg1 hop
                go_wp2
                go_ret
                exact ⟨rfl, HBW.out⟩
            · have hs1' : ¬ (sm : Int) = 1 := by omega
              have d_s : ((sm : Int) == 1) = false := by simp; omega
              clear hst0 hs1 hop
              go_wp2
              go_ret
              exact ⟨rfl, HBW.out⟩
          · have d_op : (d.op == 1) = false := by simp [hop]
            by_cases hs1 : sm = 1
            · by_cases hg1 : (gn : Int) = d.hg
              · have d_s : ((sm : Int) == 1) = true := by simp [hs1]
                have d_g : ((gn : Int) == d.hg) = true := by simp [hg1]
                clear hst0 hs1 hg1 hop
                go_wp2
                go_ret
                exact ⟨rfl, HBW.out⟩
              · have har : armedR R d.hn d.hg = false := by cases h : armedR R d.hn d.hg with | false => rfl | true => exact absurd (hst0.1 h).2 hg1
                have d_s : ((sm : Int) == 1) = true := by simp [hs1]
                have d_g : ((gn : Int) == d.hg) = false := by simp [hg1]
                have HOP := Go.Lib.hid hop
                clear hst0 hs1 hg1 hop
                go_wp2_with fail
                clear s0 s2 h1 f0 d_op d_s d_g
                generalize (w6.alloc (.cells #[.int .i64 (gn : Int), .int .i64 (tm : Int), .int .i64 (sm : Int)] 105)) = W6 at *
                generalize w6.heap.size = sb at *
                refine (core_Nodes HG1.out).mono ?_
                rintro e w7 ⟨rfl, hb1⟩
                replace HG1 := Go.Lib.hid (HG1.out.below hb1)
                replace HEB := Go.Lib.hid (HEB.out.below hb1)
                replace HBW := Go.Lib.hid (HBW.out.trans (hb1.mono HBW.out.size))
                clear hb1
                go_wp2_with fail
                refine (nodes_list HG1.out HSN.out HRE.out.shop).mono ?_
                rintro e w8 ⟨v13, rfl, hown, hb1⟩
                have HN := Go.Lib.hid (show OwnL L w8 v13 fn from ⟨own_mono hown (Nat.zero_le _), fun g hg => HG1.out.new g (own_ge hown hg)⟩)
                clear hown
                replace HG1 := Go.Lib.hid (HG1.out.below hb1)
                replace HEB := Go.Lib.hid (HEB.out.below hb1)
                replace HBW := Go.Lib.hid (HBW.out.trans (hb1.mono HBW.out.size))
                clear hb1
                go_wp2_with fail
                refine (core_Tickets HG1.out).mono ?_
                rintro e w9 ⟨rfl, hb1⟩
                replace HN := Go.Lib.hid (HN.out.below hb1)
                replace HG1 := Go.Lib.hid (HG1.out.below hb1)
                replace HEB := Go.Lib.hid (HEB.out.below hb1)
                replace HBW := Go.Lib.hid (HBW.out.trans (hb1.mono HBW.out.size))
                clear hb1
                go_wp2_with fail
                refine (tickets_list HG1.out HSN.out HRE.out.shop).mono ?_
                rintro e w10 ⟨v14, rfl, hown, hb1⟩
                have HT1 := Go.Lib.hid (show OwnL L w10 v14 ft from ⟨own_mono hown (Nat.zero_le _), fun g hg => HG1.out.new g (own_ge hown hg)⟩)
                replace HN := Go.Lib.hid (HN.out.below hb1)
                clear hown
                replace HG1 := Go.Lib.hid (HG1.out.below hb1)
                replace HEB := Go.Lib.hid (HEB.out.below hb1)
                replace HBW := Go.Lib.hid (HBW.out.trans (hb1.mono HBW.out.size))
                clear hb1
                obtain ⟨hg11, hs11⟩ := HG1.out.newR [.bool false] 4
                have hd11 := (hs11.did 0).toP
                have HG11 := Go.Lib.hid hg11
                have HE11 := Go.Lib.hid (HEB.out.shr hs11)
                have HN11 := Go.Lib.hid (HN.out.didP hd11)
                have HT11 := Go.Lib.hid (HT1.out.didP hd11)
                have HB11 := Go.Lib.hid (hd11.below_old HBW.out (Nat.le_refl _) HOL.out)
                have HSH11 := Go.Lib.hid hs11
                clear HN HT1 HG1 HEB hs11 hd11 hg11
                have hb13 : Below (w10.alloc (.cells #[.bool false] 4)).heap.size (w10.alloc (.cells #[.bool false] 4)) (((w10.alloc (.cells #[.bool false] 4)).alloc (.cells #[.int .i64 d.op, .int .i64 d.hn, .int .i64 d.hg, .int .i64 d.time, .int .i64 d.arg, .int .i64 d.user] 38)).alloc (.cells #[.slice (some ⟨w10.heap.size + 1, 0, none⟩) 1 1] 24)) := ((Below.refl _ _).alloc (Nat.le_refl _) _).alloc (by simp) _
                have hsz11 : (w10.alloc (.cells #[.bool false] 4)).heap.size = w10.heap.size + 1 := World.size_alloc _ _
                have hE13 : Env (fun _ => 0) (((w10.alloc (.cells #[.bool false] 4)).alloc (.cells #[.int .i64 d.op, .int .i64 d.hn, .int .i64 d.hg, .int .i64 d.time, .int .i64 d.arg, .int .i64 d.user] 38)).alloc (.cells #[.slice (some ⟨w10.heap.size + 1, 0, none⟩) 1 1] 24)) [(w10.heap.size + 2, [.slice (some ⟨w10.heap.size + 1, 0, none⟩) 1 1]), (w10.heap.size + 1, [.int .i64 d.op, .int .i64 d.hn, .int .i64 d.hg, .int .i64 d.time, .int .i64 d.arg, .int .i64 d.user])] := Env.alloc_at (Env.alloc_at (Env.nil _ (w10.alloc (.cells #[.bool false] 4))) (fun _ _ => rfl) [.int .i64 d.op, .int .i64 d.hn, .int .i64 d.hg, .int .i64 d.time, .int .i64 d.arg, .int .i64 d.user] 38 (by rw [hsz11])) (fun _ _ => rfl) [.slice (some ⟨w10.heap.size + 1, 0, none⟩) 1 1] 24 (by simp)
                have hrow2 : DeedsRow (((w10.alloc (.cells #[.bool false] 4)).alloc (.cells #[.int .i64 d.op, .int .i64 d.hn, .int .i64 d.hg, .int .i64 d.time, .int .i64 d.arg, .int .i64 d.user] 38)).alloc (.cells #[.slice (some ⟨w10.heap.size + 1, 0, none⟩) 1 1] 24)) (.slice (some ⟨w10.heap.size + 1, 0, none⟩) 1 1) [d] := by
                  refine ⟨_, _, rfl, fun i d' hi => ?_⟩
                  cases i with
                  | zero =>
                    cases hi
                    exact ⟨_, rfl, ⟨hE13.cell 1 0 rfl rfl, hE13.cell 1 1 rfl rfl, hE13.cell 1 2 rfl rfl, hE13.cell 1 3 rfl rfl, hE13.cell 1 4 rfl rfl, hE13.cell 1 5 rfl rfl⟩⟩
                  | succ i => cases hi
                have htab2 : DeedsTab (((w10.alloc (.cells #[.bool false] 4)).alloc (.cells #[.int .i64 d.op, .int .i64 d.hn, .int .i64 d.hg, .int .i64 d.time, .int .i64 d.arg, .int .i64 d.user] 38)).alloc (.cells #[.slice (some ⟨w10.heap.size + 1, 0, none⟩) 1 1] 24)) 0 (.slice (some ⟨w10.heap.size + 2, 0, none⟩) 1 1) [[d]] := by
                  refine ⟨_, _, rfl, fun i ds' hi => ?_⟩
                  cases i with
                  | zero => cases hi; exact ⟨_, _, rfl, hE13.cell 0 0 rfl rfl, hrow2, fun g _ => Nat.zero_le _⟩
                  | succ i => cases hi
                have HTB2 := Go.Lib.hid htab2
                have HB13 := Go.Lib.hid hb13
                have f0 : (w10.alloc (.cells #[.bool false] 4)).cell? ⟨db, 0, none⟩ = _ := HE11.out.cell 2 0 rfl rfl
                have f1 : (w10.alloc (.cells #[.bool false] 4)).cell? ⟨db, 1, none⟩ = _ := HE11.out.cell 2 1 rfl rfl
                have f2 : (w10.alloc (.cells #[.bool false] 4)).cell? ⟨db, 2, none⟩ = _ := HE11.out.cell 2 2 rfl rfl
                have f3 : (w10.alloc (.cells #[.bool false] 4)).cell? ⟨db, 3, none⟩ = _ := HE11.out.cell 2 3 rfl rfl
                have f4 : (w10.alloc (.cells #[.bool false] 4)).cell? ⟨db, 4, none⟩ = _ := HE11.out.cell 2 4 rfl rfl
                have f5 : (w10.alloc (.cells #[.bool false] 4)).cell? ⟨db, 5, none⟩ = _ := HE11.out.cell 2 5 rfl rfl
                clear hE13 hrow2 htab2 hb13 hsz11
                go_wp2_with fail
                clear f0 f1 f2 f3 f4 f5
                refine (three_any [[d]] _ _ HTB2.out (by simp) (by simp)).mono ?_
                rintro e w14 ⟨v, rfl, htab, hb1⟩
                have hb14 := HB13.out.trans (hb1.mono HB13.out.size)
                obtain ⟨p6, c6, rfl, ht6⟩ := htab
                obtain ⟨a6, u6', rfl, hu6, hr6, _⟩ := ht6 0 _ rfl
                have hu6' : w14.cell? a6 = some u6' := hu6
                obtain ⟨p7, c7, rfl, ht7⟩ := hr6
                obtain ⟨a7, rfl, hd7⟩ := ht7 0 _ rfl
                have hd7' : DeedAt w14 a7 (fix3 d) := hd7
                obtain ⟨k0, k1, k2, k3, k4, k5⟩ := hd7'
                obtain ⟨x1, x2, x3, x4, x5⟩ := fix3_facts d HOP.out
                replace HG11 := Go.Lib.hid (HG11.out.below hb14)
                replace HE11 := Go.Lib.hid (HE11.out.below hb14)
                replace HN11 := Go.Lib.hid (HN11.out.below hb14)
                replace HT11 := Go.Lib.hid (HT11.out.below hb14)
                replace HB11 := Go.Lib.hid (HB11.out.trans (hb14.mono HB11.out.size))
                clear hb1 hb14 HB13 HTB2 ht6 ht7 hd7 HOP
                generalize (fun b => if b = w10.heap.size then 5 else L b) = L11 at *
                have HOL11 : Hid (∀ b, b < w.heap.size → L11 b = 0) := Go.Lib.hid (fun b hb => (HSH11.out.lab b (Nat.lt_of_lt_of_le hb HBW.out.size)).trans (HOL.out b hb))
                clear HSH11 HBW
                generalize w10.heap.size = ob at *
                rw [List.length_map] at hu6 hu6'
                have har2 : armedR R (fix3 d).hn (fix3 d).hg = false := by rw [x1, x2]; exact har
                have htm3 : (fix3 d).time < 9223372036854775808 := by rw [x3]; exact HD0.out.1
                clear x1 x2 x3 x4 har
                generalize fix3 d = dx at *
                obtain ⟨op, hn', hg', tm', arg, us⟩ := dx
                dsimp only at k0 k1 k2 k3 k4 k5 x5 har2 htm3
                have hb15 : Below w14.heap.size w14 (w14.alloc (.cells #[.int .i64 op, .int .i64 hn', .int .i64 hg', .int .i64 tm', .int .i64 arg, .int .i64 us] 38)) := (Below.refl _ _).alloc (Nat.le_refl _) _
                have HE15 : Hid (Env L11 (w14.alloc (.cells #[.int .i64 op, .int .i64 hn', .int .i64 hg', .int .i64 tm', .int .i64 arg, .int .i64 us] 38)) [(w14.heap.size, [.int .i64 op, .int .i64 hn', .int .i64 hg', .int .i64 tm', .int .i64 arg, .int .i64 us]), (sb, [.int .i64 (gn : Int), .int .i64 (tm : Int), .int .i64 (sm : Int)]), (hb5, [.int .i64 d.hn, .int .i64 d.hg]), (db, [.int .i64 d.op, .int .i64 d.hn, .int .i64 d.hg, .int .i64 d.time, .int .i64 d.arg, .int .i64 d.user]), (cb, [.int .i64 (x 0), .int .i64 (x 1), .int .i64 (x 2), .int .i64 (x 3), .int .i64 (x 4), .int .i64 (x 5), .int .i64 (x 6), .int .i64 (x 7), .int .i64 (x 8), .int .i64 (x 9), .int .i64 (x 10), .int .i64 (x 11), .int .i64 (x 12)])]) := Go.Lib.hid (Env.alloc_at HE11.out (fun b hb => HG11.out.new b hb) [.int .i64 op, .int .i64 hn', .int .i64 hg', .int .i64 tm', .int .i64 arg, .int .i64 us] 38 (b := w14.heap.size) rfl)
                have HBX := Go.Lib.hid hb15
                have q0 := HE15.out.cell 0 0 rfl rfl
                have q1 := HE15.out.cell 0 1 rfl rfl
                have q2 := HE15.out.cell 0 2 rfl rfl
                have q3 := HE15.out.cell 0 3 rfl rfl
                have q4 := HE15.out.cell 0 4 rfl rfl
                have q5 := HE15.out.cell 0 5 rfl rfl
                clear hb15
                go_wp2_with fail
                replace HG11 := Go.Lib.hid (HG11.out.below HBX.out)
                replace HN11 := Go.Lib.hid (HN11.out.below HBX.out)
                replace HT11 := Go.Lib.hid (HT11.out.below HBX.out)
                replace HB11 := Go.Lib.hid (HB11.out.trans (HBX.out.mono HB11.out.size))
                clear q0 q1 q2 q3 q4 q5 k0 k1 k2 k3 k4 k5 hu6 hu6' HBX HE11
                generalize (w14.alloc (.cells #[.int .i64 op, .int .i64 hn', .int .i64 hg', .int .i64 tm', .int .i64 arg, .int .i64 us] 38)) = W15 at *
                generalize w14.heap.size = xb at *
                have hknow : (S.newR ob [.bool false]).knows (ob, 0) := St.newR_knows S ob [.bool false] (by decide)
                obtain ⟨m, T, ev, hm1, hm2, hrun, hTm, hTn, hTr, he1, he2, he3, he4⟩ := stale_same (f := fun e => .bool (okB op e)) (a := (ob, 0)) (d := ⟨op, hn', hg', tm', arg, us⟩) (S := S.newR ob [.bool false]) hok HSN.out HRE.out x5 har2 hknow (by have := HCN.out; show S.cnt ≤ _; omega) (by have := HLO.out; show S.log.length ≤ _; omega)
                rw [okB_yes he1 he2 he3 he4] at hTr
                have HRUN := Go.Lib.hid hrun; have HTM := Go.Lib.hid hTm; have HTN := Go.Lib.hid hTn; have HTR := Go.Lib.hid hTr
                clear hrun hTm hTn hTr he1 he2 he3 he4 hknow har2 x5
                refine (does_any (t := 0) (m := 100) (E := ⟨ek, ep, ea, ec, cf⟩) (d := ⟨op, hn', hg', tm', arg, us⟩) (r := (ob, 0)) (wk := 0) (onV_mono fun e => .bool (okB op e)) HG11.out (stale2_con (E := ⟨ek, ep, ea, ec, cf⟩) (HE15.out.sub (env' := [(xb, [.int .i64 op, .int .i64 hn', .int .i64 hg', .int .i64 tm', .int .i64 arg, .int .i64 us])]) (by simp))) (by decide) htm3).mono ?_
                rintro e w7' ⟨v, L7, rfl, hd7, hg7, hc7⟩
                have HD7 := Go.Lib.hid hd7
                have HG7 := Go.Lib.hid hg7
                have HC7 := Go.Lib.hid hc7
                obtain ⟨f, cap, rfl, _, _⟩ := hc7
                clear hd7 hg7
                have HT := Go.Lib.hid (HG7.out.task 0 (.func (.func f) #[] cap) 142)
                go_wp2_with fail
                refine (step_New f #[] cap w7').mono ?_
                rintro e w8' ⟨rfl, rfl⟩
                generalize (fun b => if b = w7'.heap.size then 5000 + 0 else L7 b) = L8 at *
                have hd8 : DidP (TP 0) L7 w7' L8 (w7'.alloc (.cells #[.func (.func f) #[] cap, .int .i64 0] 142)) := ⟨rfl, rfl, rfl, by simp, fun b hb _ => Below.heap_alloc _ _ _ hb, HT.out.2.2.lab⟩
                have hdd := HD7.out.toP.trans hd8
                have HK8 := Go.Lib.hid (CodeSim.ext cf (prApp cf (evU (onV fun e => .bool (okB op e)))) _ 0 HC7.out HT.out.2.2)
                have HE8 := Go.Lib.hid ((HE15.out.toDidP hdd).sub (env' := [(sb, [.int .i64 (gn : Int), .int .i64 (tm : Int), .int .i64 (sm : Int)]), (hb5, [.int .i64 d.hn, .int .i64 d.hg]), (db, [.int .i64 d.op, .int .i64 d.hn, .int .i64 d.hg, .int .i64 d.time, .int .i64 d.arg, .int .i64 d.user]), (cb, [.int .i64 (x 0), .int .i64 (x 1), .int .i64 (x 2), .int .i64 (x 3), .int .i64 (x 4), .int .i64 (x 5), .int .i64 (x 6), .int .i64 (x 7), .int .i64 (x 8), .int .i64 (x 9), .int .i64 (x 10), .int .i64 (x 11), .int .i64 (x 12)])]) (by simp))
                have HN8 := Go.Lib.hid (HN11.out.didP hdd)
                have HT8 := Go.Lib.hid (HT11.out.didP hdd)
                have HB8 := Go.Lib.hid (hdd.below_old HB11.out (Nat.le_refl _) HOL11.out)
                have HOL8 : Hid (∀ b, b < w.heap.size → L8 b = 0) := Go.Lib.hid (fun b hb => (hdd.lab b (Nat.lt_of_lt_of_le hb HB11.out.size)).trans (HOL11.out b hb))
                clear hd8 hdd HC7 HE15 HN11 HT11 HB11 HOL11 HD7 HG7 HG11 htm3
                generalize (w7'.alloc (.cells #[.func (.func f) #[] cap, .int .i64 0] 142)) = W8 at *
                generalize w7'.heap.size = tb at *
                have qc4 : W8.cell? ⟨cb, 4, none⟩ = some (.int .i64 (cf.tickets : Int)) := by rw [← HX.out.2]; exact HE8.out.cell 3 4 rfl rfl
                have h0 : W8.cell? ⟨hb5, 0, none⟩ = some (.int .i64 d.hn) := HE8.out.cell 1 0 rfl rfl
                have s0 : W8.cell? ⟨sb, 0, none⟩ = some (.int .i64 (gn : Int)) := HE8.out.cell 0 0 rfl rfl
                have s1 : W8.cell? ⟨sb, 1, none⟩ = some (.int .i64 (tm : Int)) := HE8.out.cell 0 1 rfl rfl
                have s2 : W8.cell? ⟨sb, 2, none⟩ = some (.int .i64 (sm : Int)) := HE8.out.cell 0 2 rfl rfl
                have hw1 : IntKind.i64.wrap (10 * (cf.tickets : Int)) = 10 * (cf.tickets : Int) := IntWalk.i64_in _ (by omega)
                have hw2 : IntKind.i64.wrap (60 + 10 * (cf.tickets : Int)) = ((60 + 10 * cf.tickets : Nat) : Int) := by rw [IntWalk.i64_in _ (by omega)]; omega
                have hbd : Below W8.heap.size W8 W8.drew := (Below.refl _ _).drew
                have HF : Hid (Calls Tryz.prog 20 #[.pointer (some ⟨tb, 0, none⟩), .int .i64 ((60 + 10 * cf.tickets : Nat) : Int)] W8.drew _) := Go.Lib.hid (task_finish (most := 60 + 10 * cf.tickets) (HT.out.1.below hbd) (HT.out.2.1.below hbd) (by decide) (by omega) (by omega) (by decide) (CodeSim.le cf (prApp cf (evU (onV fun e => .bool (okB op e)))) _ 0 (CodeSim.ext cf (prApp cf (evU (onV fun e => .bool (okB op e)))) _ 0 HK8.out (below_ext hbd 0 L8)) (by omega)) HRUN.out)
                replace HE8 := Go.Lib.hid (HE8.out.below hbd)
                replace HN8 := Go.Lib.hid (HN8.out.below hbd)
                replace HT8 := Go.Lib.hid (HT8.out.below hbd)
                replace HB8 := Go.Lib.hid (HB8.out.drew)
                clear hbd HT HK8 HRUN
                have HSC := Go.Lib.hid (fun (L' : Lab) (W : World) (h : Good ⟨ek, ep, ea, ec, cf⟩ L' T W) => show Calls Tryz.prog 56 #[.pointer (some ⟨ek, 0, none⟩), .int .i64 d.hn] W fun e w' => e = .returned (.agg #[.int .i64 (gn : Int), .int .i64 (tm : Int), .int .i64 (sm : Int)]) ∧ Below W.heap.size W w' from by
                  have hs := core_state_any h (HTN.out.trans HSN.out) d.hn
                  have hq : stA cf T.m d.hn = stA cf S.m d.hn := by show stA cf T.m d.hn = _; rw [HTM.out]; rfl
                  dsimp only at hs
                  rw [hq, ← HST.out, hgn, htm, hsm'] at hs
                  exact hs)
                go_wp2
                go_region_with
                  (first
                  | (go_at_call 20; refine HF.out.mono ?_; rintro e w9' ⟨v', L9, rfl, hg9, hd9, ht9⟩; have hE9 := HE8.out.toDidP hd9; have qc4 : w9'.cell? ⟨cb, 4, none⟩ = some (.int .i64 (cf.tickets : Int)) := (hE9.cell 3 4 rfl rfl).trans (by rw [HX.out.2]); have h0 : w9'.cell? ⟨hb5, 0, none⟩ = some (.int .i64 d.hn) := hE9.cell 1 0 rfl rfl; have s0 : w9'.cell? ⟨sb, 0, none⟩ = some (.int .i64 (gn : Int)) := hE9.cell 0 0 rfl rfl; have s1 : w9'.cell? ⟨sb, 1, none⟩ = some (.int .i64 (tm : Int)) := hE9.cell 0 1 rfl rfl; have s2 : w9'.cell? ⟨sb, 2, none⟩ = some (.int .i64 (sm : Int)) := hE9.cell 0 2 rfl rfl; have okc := hg9.reads HTR.out)
                  | (go_at_call 56; refine (HSC.out _ _ hg9).mono ?_; rintro e w10' ⟨rfl, hb10⟩; have qc4 := below_cell hb10 qc4; have h0 := below_cell hb10 h0; have s0 := below_cell hb10 s0; have s1 := below_cell hb10 s1; have s2 := below_cell hb10 s2; have okc := below_cell hb10 okc))
                all_goals (
                  have HG := Go.Lib.hid (hg9.below hb10)
                  have HNA := Go.Lib.hid ((HN8.out.didP hd9).below hb10)
                  have HTA := Go.Lib.hid ((HT8.out.didP hd9).below hb10)
                  have hB1 := hd9.below_old HB8.out (Nat.le_refl _) HOL8.out
                  have HBA := Go.Lib.hid (hB1.trans (hb10.mono hB1.size))
                  have HRT : Hid (RelR cf T.m R fn ft bx) := Go.Lib.hid (by rw [HTM.out]; exact HRE.out)
                  have HNT : Hid (T.n = cf.size) := Go.Lib.hid (HTN.out.trans HSN.out)
                  clear hg9 hd9 ht9 hb10 HN8 HT8 HB8 HOL8 hB1 HRE HTM HTN HSC HTR HE8 HF
                  go_wp2_with fail
                  refine (core_Nodes HG.out).mono ?_
                  rintro e w11 ⟨rfl, hb⟩
                  replace HG := Go.Lib.hid (HG.out.below hb); replace HNA := Go.Lib.hid (HNA.out.below hb); replace HTA := Go.Lib.hid (HTA.out.below hb); replace HBA := Go.Lib.hid (HBA.out.trans (hb.mono HBA.out.size)); clear hb
                  go_wp2_with fail
                  refine (nodes_list HG.out HNT.out HRT.out.shop).mono ?_
                  rintro e w12 ⟨v1, rfl, hown, hb⟩
                  have hs1 := same_list w12 v1 v13 fn hown (HNA.out.below hb).own (shop_lens hok HRT.out.shop).1
                  replace HG := Go.Lib.hid (HG.out.below hb); replace HTA := Go.Lib.hid (HTA.out.below hb); replace HBA := Go.Lib.hid (HBA.out.trans (hb.mono HBA.out.size)); clear hb hown HNA
                  go_wp2_with fail
                  refine hs1.mono ?_
                  rintro e w12' ⟨rfl, m1, rfl⟩
                  have hb := below_drewN (w := w12) m1
                  replace HG := Go.Lib.hid (HG.out.below hb); replace HTA := Go.Lib.hid (HTA.out.below hb); replace HBA := Go.Lib.hid (HBA.out.trans (hb.mono HBA.out.size)); clear hb
                  generalize w12.drewN m1 = w12' at *
                  clear hs1
                  go_wp2_with fail
                  refine (core_Tickets HG.out).mono ?_
                  rintro e w13 ⟨rfl, hb⟩
                  replace HG := Go.Lib.hid (HG.out.below hb); replace HTA := Go.Lib.hid (HTA.out.below hb); replace HBA := Go.Lib.hid (HBA.out.trans (hb.mono HBA.out.size)); clear hb
                  go_wp2_with fail
                  refine (tickets_list HG.out HNT.out HRT.out.shop).mono ?_
                  rintro e w14' ⟨v2, rfl, hown, hb⟩
                  have hs1 := same_list w14' v2 v14 ft hown (HTA.out.below hb).own (shop_lens hok HRT.out.shop).2
                  replace HBA := Go.Lib.hid (HBA.out.trans (hb.mono HBA.out.size)); clear hb hown HTA HG
                  go_wp2_with fail
                  refine hs1.mono ?_
                  rintro e w15' ⟨rfl, m2, rfl⟩
                  have hb := below_drewN (w := w14') m2
                  replace HBA := Go.Lib.hid (HBA.out.trans (hb.mono HBA.out.size)); clear hb
                  generalize w14'.drewN m2 = w15' at *
                  clear hs1
                  go_wp2
                  go_ret
                  exact ⟨rfl, HBA.out⟩)
            · have har : armedR R d.hn d.hg = false := by cases h : armedR R d.hn d.hg with | false => rfl | true => exact absurd (hst0.1 h).1 hs1
              have d_s : ((sm : Int) == 1) = false := by simp; omega
              have HOP := Go.Lib.hid hop
              clear hst0 hs1 hop
              go_wp2_with fail
              clear s0 s2 h1 f0 d_op d_s
              generalize (w6.alloc (.cells #[.int .i64 (gn : Int), .int .i64 (tm : Int), .int .i64 (sm : Int)] 105)) = W6 at *
              generalize w6.heap.size = sb at *
              refine (core_Nodes HG1.out).mono ?_
              rintro e w7 ⟨rfl, hb1⟩
              replace HG1 := Go.Lib.hid (HG1.out.below hb1)
              replace HEB := Go.Lib.hid (HEB.out.below hb1)
              replace HBW := Go.Lib.hid (HBW.out.trans (hb1.mono HBW.out.size))
              clear hb1
              go_wp2_with fail
              refine (nodes_list HG1.out HSN.out HRE.out.shop).mono ?_
              rintro e w8 ⟨v13, rfl, hown, hb1⟩
              have HN := Go.Lib.hid (show OwnL L w8 v13 fn from ⟨own_mono hown (Nat.zero_le _), fun g hg => HG1.out.new g (own_ge hown hg)⟩)
              clear hown
              replace HG1 := Go.Lib.hid (HG1.out.below hb1)
              replace HEB := Go.Lib.hid (HEB.out.below hb1)
              replace HBW := Go.Lib.hid (HBW.out.trans (hb1.mono HBW.out.size))
              clear hb1
              go_wp2_with fail
              refine (core_Tickets HG1.out).mono ?_
              rintro e w9 ⟨rfl, hb1⟩
              replace HN := Go.Lib.hid (HN.out.below hb1)
              replace HG1 := Go.Lib.hid (HG1.out.below hb1)
              replace HEB := Go.Lib.hid (HEB.out.below hb1)
              replace HBW := Go.Lib.hid (HBW.out.trans (hb1.mono HBW.out.size))
              clear hb1
              go_wp2_with fail
              refine (tickets_list HG1.out HSN.out HRE.out.shop).mono ?_
              rintro e w10 ⟨v14, rfl, hown, hb1⟩
              have HT1 := Go.Lib.hid (show OwnL L w10 v14 ft from ⟨own_mono hown (Nat.zero_le _), fun g hg => HG1.out.new g (own_ge hown hg)⟩)
              replace HN := Go.Lib.hid (HN.out.below hb1)
              clear hown
              replace HG1 := Go.Lib.hid (HG1.out.below hb1)
              replace HEB := Go.Lib.hid (HEB.out.below hb1)
              replace HBW := Go.Lib.hid (HBW.out.trans (hb1.mono HBW.out.size))
              clear hb1
              obtain ⟨hg11, hs11⟩ := HG1.out.newR [.bool false] 4
              have hd11 := (hs11.did 0).toP
              have HG11 := Go.Lib.hid hg11
              have HE11 := Go.Lib.hid (HEB.out.shr hs11)
              have HN11 := Go.Lib.hid (HN.out.didP hd11)
              have HT11 := Go.Lib.hid (HT1.out.didP hd11)
              have HB11 := Go.Lib.hid (hd11.below_old HBW.out (Nat.le_refl _) HOL.out)
              have HSH11 := Go.Lib.hid hs11
              clear HN HT1 HG1 HEB hs11 hd11 hg11
              have hb13 : Below (w10.alloc (.cells #[.bool false] 4)).heap.size (w10.alloc (.cells #[.bool false] 4)) (((w10.alloc (.cells #[.bool false] 4)).alloc (.cells #[.int .i64 d.op, .int .i64 d.hn, .int .i64 d.hg, .int .i64 d.time, .int .i64 d.arg, .int .i64 d.user] 38)).alloc (.cells #[.slice (some ⟨w10.heap.size + 1, 0, none⟩) 1 1] 24)) := ((Below.refl _ _).alloc (Nat.le_refl _) _).alloc (by simp) _
              have hsz11 : (w10.alloc (.cells #[.bool false] 4)).heap.size = w10.heap.size + 1 := World.size_alloc _ _
              have hE13 : Env (fun _ => 0) (((w10.alloc (.cells #[.bool false] 4)).alloc (.cells #[.int .i64 d.op, .int .i64 d.hn, .int .i64 d.hg, .int .i64 d.time, .int .i64 d.arg, .int .i64 d.user] 38)).alloc (.cells #[.slice (some ⟨w10.heap.size + 1, 0, none⟩) 1 1] 24)) [(w10.heap.size + 2, [.slice (some ⟨w10.heap.size + 1, 0, none⟩) 1 1]), (w10.heap.size + 1, [.int .i64 d.op, .int .i64 d.hn, .int .i64 d.hg, .int .i64 d.time, .int .i64 d.arg, .int .i64 d.user])] := Env.alloc_at (Env.alloc_at (Env.nil _ (w10.alloc (.cells #[.bool false] 4))) (fun _ _ => rfl) [.int .i64 d.op, .int .i64 d.hn, .int .i64 d.hg, .int .i64 d.time, .int .i64 d.arg, .int .i64 d.user] 38 (by rw [hsz11])) (fun _ _ => rfl) [.slice (some ⟨w10.heap.size + 1, 0, none⟩) 1 1] 24 (by simp)
              have hrow2 : DeedsRow (((w10.alloc (.cells #[.bool false] 4)).alloc (.cells #[.int .i64 d.op, .int .i64 d.hn, .int .i64 d.hg, .int .i64 d.time, .int .i64 d.arg, .int .i64 d.user] 38)).alloc (.cells #[.slice (some ⟨w10.heap.size + 1, 0, none⟩) 1 1] 24)) (.slice (some ⟨w10.heap.size + 1, 0, none⟩) 1 1) [d] := by
                refine ⟨_, _, rfl, fun i d' hi => ?_⟩
                cases i with
                | zero =>
                  cases hi
                  exact ⟨_, rfl, ⟨hE13.cell 1 0 rfl rfl, hE13.cell 1 1 rfl rfl, hE13.cell 1 2 rfl rfl, hE13.cell 1 3 rfl rfl, hE13.cell 1 4 rfl rfl, hE13.cell 1 5 rfl rfl⟩⟩
                | succ i => cases hi
              have htab2 : DeedsTab (((w10.alloc (.cells #[.bool false] 4)).alloc (.cells #[.int .i64 d.op, .int .i64 d.hn, .int .i64 d.hg, .int .i64 d.time, .int .i64 d.arg, .int .i64 d.user] 38)).alloc (.cells #[.slice (some ⟨w10.heap.size + 1, 0, none⟩) 1 1] 24)) 0 (.slice (some ⟨w10.heap.size + 2, 0, none⟩) 1 1) [[d]] := by
                refine ⟨_, _, rfl, fun i ds' hi => ?_⟩
                cases i with
                | zero => cases hi; exact ⟨_, _, rfl, hE13.cell 0 0 rfl rfl, hrow2, fun g _ => Nat.zero_le _⟩
                | succ i => cases hi
              have HTB2 := Go.Lib.hid htab2
              have HB13 := Go.Lib.hid hb13
              have f0 : (w10.alloc (.cells #[.bool false] 4)).cell? ⟨db, 0, none⟩ = _ := HE11.out.cell 2 0 rfl rfl
              have f1 : (w10.alloc (.cells #[.bool false] 4)).cell? ⟨db, 1, none⟩ = _ := HE11.out.cell 2 1 rfl rfl
              have f2 : (w10.alloc (.cells #[.bool false] 4)).cell? ⟨db, 2, none⟩ = _ := HE11.out.cell 2 2 rfl rfl
              have f3 : (w10.alloc (.cells #[.bool false] 4)).cell? ⟨db, 3, none⟩ = _ := HE11.out.cell 2 3 rfl rfl
              have f4 : (w10.alloc (.cells #[.bool false] 4)).cell? ⟨db, 4, none⟩ = _ := HE11.out.cell 2 4 rfl rfl
              have f5 : (w10.alloc (.cells #[.bool false] 4)).cell? ⟨db, 5, none⟩ = _ := HE11.out.cell 2 5 rfl rfl
              clear hE13 hrow2 htab2 hb13 hsz11
              go_wp2_with fail
              clear f0 f1 f2 f3 f4 f5
              refine (three_any [[d]] _ _ HTB2.out (by simp) (by simp)).mono ?_
              rintro e w14 ⟨v, rfl, htab, hb1⟩
              have hb14 := HB13.out.trans (hb1.mono HB13.out.size)
              obtain ⟨p6, c6, rfl, ht6⟩ := htab
              obtain ⟨a6, u6', rfl, hu6, hr6, _⟩ := ht6 0 _ rfl
              have hu6' : w14.cell? a6 = some u6' := hu6
              obtain ⟨p7, c7, rfl, ht7⟩ := hr6
              obtain ⟨a7, rfl, hd7⟩ := ht7 0 _ rfl
              have hd7' : DeedAt w14 a7 (fix3 d) := hd7
              obtain ⟨k0, k1, k2, k3, k4, k5⟩ := hd7'
              obtain ⟨x1, x2, x3, x4, x5⟩ := fix3_facts d HOP.out
              replace HG11 := Go.Lib.hid (HG11.out.below hb14)
              replace HE11 := Go.Lib.hid (HE11.out.below hb14)
              replace HN11 := Go.Lib.hid (HN11.out.below hb14)
              replace HT11 := Go.Lib.hid (HT11.out.below hb14)
              replace HB11 := Go.Lib.hid (HB11.out.trans (hb14.mono HB11.out.size))
              clear hb1 hb14 HB13 HTB2 ht6 ht7 hd7 HOP
              generalize (fun b => if b = w10.heap.size then 5 else L b) = L11 at *
              have HOL11 : Hid (∀ b, b < w.heap.size → L11 b = 0) := Go.Lib.hid (fun b hb => (HSH11.out.lab b (Nat.lt_of_lt_of_le hb HBW.out.size)).trans (HOL.out b hb))
              clear HSH11 HBW
              generalize w10.heap.size = ob at *
              rw [List.length_map] at hu6 hu6'
              have har2 : armedR R (fix3 d).hn (fix3 d).hg = false := by rw [x1, x2]; exact har
              have htm3 : (fix3 d).time < 9223372036854775808 := by rw [x3]; exact HD0.out.1
              clear x1 x2 x3 x4 har
              generalize fix3 d = dx at *
              obtain ⟨op, hn', hg', tm', arg, us⟩ := dx
              dsimp only at k0 k1 k2 k3 k4 k5 x5 har2 htm3
              have hb15 : Below w14.heap.size w14 (w14.alloc (.cells #[.int .i64 op, .int .i64 hn', .int .i64 hg', .int .i64 tm', .int .i64 arg, .int .i64 us] 38)) := (Below.refl _ _).alloc (Nat.le_refl _) _
              have HE15 : Hid (Env L11 (w14.alloc (.cells #[.int .i64 op, .int .i64 hn', .int .i64 hg', .int .i64 tm', .int .i64 arg, .int .i64 us] 38)) [(w14.heap.size, [.int .i64 op, .int .i64 hn', .int .i64 hg', .int .i64 tm', .int .i64 arg, .int .i64 us]), (sb, [.int .i64 (gn : Int), .int .i64 (tm : Int), .int .i64 (sm : Int)]), (hb5, [.int .i64 d.hn, .int .i64 d.hg]), (db, [.int .i64 d.op, .int .i64 d.hn, .int .i64 d.hg, .int .i64 d.time, .int .i64 d.arg, .int .i64 d.user]), (cb, [.int .i64 (x 0), .int .i64 (x 1), .int .i64 (x 2), .int .i64 (x 3), .int .i64 (x 4), .int .i64 (x 5), .int .i64 (x 6), .int .i64 (x 7), .int .i64 (x 8), .int .i64 (x 9), .int .i64 (x 10), .int .i64 (x 11), .int .i64 (x 12)])]) := Go.Lib.hid (Env.alloc_at HE11.out (fun b hb => HG11.out.new b hb) [.int .i64 op, .int .i64 hn', .int .i64 hg', .int .i64 tm', .int .i64 arg, .int .i64 us] 38 (b := w14.heap.size) rfl)
              have HBX := Go.Lib.hid hb15
              have q0 := HE15.out.cell 0 0 rfl rfl
              have q1 := HE15.out.cell 0 1 rfl rfl
              have q2 := HE15.out.cell 0 2 rfl rfl
              have q3 := HE15.out.cell 0 3 rfl rfl
              have q4 := HE15.out.cell 0 4 rfl rfl
              have q5 := HE15.out.cell 0 5 rfl rfl
              clear hb15
              go_wp2_with fail
              replace HG11 := Go.Lib.hid (HG11.out.below HBX.out)
              replace HN11 := Go.Lib.hid (HN11.out.below HBX.out)
              replace HT11 := Go.Lib.hid (HT11.out.below HBX.out)
              replace HB11 := Go.Lib.hid (HB11.out.trans (HBX.out.mono HB11.out.size))
              clear q0 q1 q2 q3 q4 q5 k0 k1 k2 k3 k4 k5 hu6 hu6' HBX HE11
              generalize (w14.alloc (.cells #[.int .i64 op, .int .i64 hn', .int .i64 hg', .int .i64 tm', .int .i64 arg, .int .i64 us] 38)) = W15 at *
              generalize w14.heap.size = xb at *
              have hknow : (S.newR ob [.bool false]).knows (ob, 0) := St.newR_knows S ob [.bool false] (by decide)
              obtain ⟨m, T, ev, hm1, hm2, hrun, hTm, hTn, hTr, he1, he2, he3, he4⟩ := stale_same (f := fun e => .bool (okB op e)) (a := (ob, 0)) (d := ⟨op, hn', hg', tm', arg, us⟩) (S := S.newR ob [.bool false]) hok HSN.out HRE.out x5 har2 hknow (by have := HCN.out; show S.cnt ≤ _; omega) (by have := HLO.out; show S.log.length ≤ _; omega)
              rw [okB_yes he1 he2 he3 he4] at hTr
              have HRUN := Go.Lib.hid hrun; have HTM := Go.Lib.hid hTm; have HTN := Go.Lib.hid hTn; have HTR := Go.Lib.hid hTr
              clear hrun hTm hTn hTr he1 he2 he3 he4 hknow har2 x5
              refine (does_any (t := 0) (m := 100) (E := ⟨ek, ep, ea, ec, cf⟩) (d := ⟨op, hn', hg', tm', arg, us⟩) (r := (ob, 0)) (wk := 0) (onV_mono fun e => .bool (okB op e)) HG11.out (stale2_con (E := ⟨ek, ep, ea, ec, cf⟩) (HE15.out.sub (env' := [(xb, [.int .i64 op, .int .i64 hn', .int .i64 hg', .int .i64 tm', .int .i64 arg, .int .i64 us])]) (by simp))) (by decide) htm3).mono ?_
              rintro e w7' ⟨v, L7, rfl, hd7, hg7, hc7⟩
              have HD7 := Go.Lib.hid hd7
              have HG7 := Go.Lib.hid hg7
              have HC7 := Go.Lib.hid hc7
              obtain ⟨f, cap, rfl, _, _⟩ := hc7
              clear hd7 hg7
              have HT := Go.Lib.hid (HG7.out.task 0 (.func (.func f) #[] cap) 142)
              go_wp2_with fail
              refine (step_New f #[] cap w7').mono ?_
              rintro e w8' ⟨rfl, rfl⟩
              generalize (fun b => if b = w7'.heap.size then 5000 + 0 else L7 b) = L8 at *
              have hd8 : DidP (TP 0) L7 w7' L8 (w7'.alloc (.cells #[.func (.func f) #[] cap, .int .i64 0] 142)) := ⟨rfl, rfl, rfl, by simp, fun b hb _ => Below.heap_alloc _ _ _ hb, HT.out.2.2.lab⟩
              have hdd := HD7.out.toP.trans hd8
              have HK8 := Go.Lib.hid (CodeSim.ext cf (prApp cf (evU (onV fun e => .bool (okB op e)))) _ 0 HC7.out HT.out.2.2)
              have HE8 := Go.Lib.hid ((HE15.out.toDidP hdd).sub (env' := [(sb, [.int .i64 (gn : Int), .int .i64 (tm : Int), .int .i64 (sm : Int)]), (hb5, [.int .i64 d.hn, .int .i64 d.hg]), (db, [.int .i64 d.op, .int .i64 d.hn, .int .i64 d.hg, .int .i64 d.time, .int .i64 d.arg, .int .i64 d.user]), (cb, [.int .i64 (x 0), .int .i64 (x 1), .int .i64 (x 2), .int .i64 (x 3), .int .i64 (x 4), .int .i64 (x 5), .int .i64 (x 6), .int .i64 (x 7), .int .i64 (x 8), .int .i64 (x 9), .int .i64 (x 10), .int .i64 (x 11), .int .i64 (x 12)])]) (by simp))
              have HN8 := Go.Lib.hid (HN11.out.didP hdd)
              have HT8 := Go.Lib.hid (HT11.out.didP hdd)
              have HB8 := Go.Lib.hid (hdd.below_old HB11.out (Nat.le_refl _) HOL11.out)
              have HOL8 : Hid (∀ b, b < w.heap.size → L8 b = 0) := Go.Lib.hid (fun b hb => (hdd.lab b (Nat.lt_of_lt_of_le hb HB11.out.size)).trans (HOL11.out b hb))
              clear hd8 hdd HC7 HE15 HN11 HT11 HB11 HOL11 HD7 HG7 HG11 htm3
              generalize (w7'.alloc (.cells #[.func (.func f) #[] cap, .int .i64 0] 142)) = W8 at *
              generalize w7'.heap.size = tb at *
              have qc4 : W8.cell? ⟨cb, 4, none⟩ = some (.int .i64 (cf.tickets : Int)) := by rw [← HX.out.2]; exact HE8.out.cell 3 4 rfl rfl
              have h0 : W8.cell? ⟨hb5, 0, none⟩ = some (.int .i64 d.hn) := HE8.out.cell 1 0 rfl rfl
              have s0 : W8.cell? ⟨sb, 0, none⟩ = some (.int .i64 (gn : Int)) := HE8.out.cell 0 0 rfl rfl
              have s1 : W8.cell? ⟨sb, 1, none⟩ = some (.int .i64 (tm : Int)) := HE8.out.cell 0 1 rfl rfl
              have s2 : W8.cell? ⟨sb, 2, none⟩ = some (.int .i64 (sm : Int)) := HE8.out.cell 0 2 rfl rfl
              have hw1 : IntKind.i64.wrap (10 * (cf.tickets : Int)) = 10 * (cf.tickets : Int) := IntWalk.i64_in _ (by omega)
              have hw2 : IntKind.i64.wrap (60 + 10 * (cf.tickets : Int)) = ((60 + 10 * cf.tickets : Nat) : Int) := by rw [IntWalk.i64_in _ (by omega)]; omega
              have hbd : Below W8.heap.size W8 W8.drew := (Below.refl _ _).drew
              have HF : Hid (Calls Tryz.prog 20 #[.pointer (some ⟨tb, 0, none⟩), .int .i64 ((60 + 10 * cf.tickets : Nat) : Int)] W8.drew _) := Go.Lib.hid (task_finish (most := 60 + 10 * cf.tickets) (HT.out.1.below hbd) (HT.out.2.1.below hbd) (by decide) (by omega) (by omega) (by decide) (CodeSim.le cf (prApp cf (evU (onV fun e => .bool (okB op e)))) _ 0 (CodeSim.ext cf (prApp cf (evU (onV fun e => .bool (okB op e)))) _ 0 HK8.out (below_ext hbd 0 L8)) (by omega)) HRUN.out)
              replace HE8 := Go.Lib.hid (HE8.out.below hbd)
              replace HN8 := Go.Lib.hid (HN8.out.below hbd)
              replace HT8 := Go.Lib.hid (HT8.out.below hbd)
              replace HB8 := Go.Lib.hid (HB8.out.drew)
              clear hbd HT HK8 HRUN
              have HSC := Go.Lib.hid (fun (L' : Lab) (W : World) (h : Good ⟨ek, ep, ea, ec, cf⟩ L' T W) => show Calls Tryz.prog 56 #[.pointer (some ⟨ek, 0, none⟩), .int .i64 d.hn] W fun e w' => e = .returned (.agg #[.int .i64 (gn : Int), .int .i64 (tm : Int), .int .i64 (sm : Int)]) ∧ Below W.heap.size W w' from by
                have hs := core_state_any h (HTN.out.trans HSN.out) d.hn
                have hq : stA cf T.m d.hn = stA cf S.m d.hn := by show stA cf T.m d.hn = _; rw [HTM.out]; rfl
                dsimp only at hs
                rw [hq, ← HST.out, hgn, htm, hsm'] at hs
                exact hs)
              go_wp2
              go_region_with
                (first
                | (go_at_call 20; refine HF.out.mono ?_; rintro e w9' ⟨v', L9, rfl, hg9, hd9, ht9⟩; have hE9 := HE8.out.toDidP hd9; have qc4 : w9'.cell? ⟨cb, 4, none⟩ = some (.int .i64 (cf.tickets : Int)) := (hE9.cell 3 4 rfl rfl).trans (by rw [HX.out.2]); have h0 : w9'.cell? ⟨hb5, 0, none⟩ = some (.int .i64 d.hn) := hE9.cell 1 0 rfl rfl; have s0 : w9'.cell? ⟨sb, 0, none⟩ = some (.int .i64 (gn : Int)) := hE9.cell 0 0 rfl rfl; have s1 : w9'.cell? ⟨sb, 1, none⟩ = some (.int .i64 (tm : Int)) := hE9.cell 0 1 rfl rfl; have s2 : w9'.cell? ⟨sb, 2, none⟩ = some (.int .i64 (sm : Int)) := hE9.cell 0 2 rfl rfl; have okc := hg9.reads HTR.out)
                | (go_at_call 56; refine (HSC.out _ _ hg9).mono ?_; rintro e w10' ⟨rfl, hb10⟩; have qc4 := below_cell hb10 qc4; have h0 := below_cell hb10 h0; have s0 := below_cell hb10 s0; have s1 := below_cell hb10 s1; have s2 := below_cell hb10 s2; have okc := below_cell hb10 okc))
              all_goals (
                have HG := Go.Lib.hid (hg9.below hb10)
                have HNA := Go.Lib.hid ((HN8.out.didP hd9).below hb10)
                have HTA := Go.Lib.hid ((HT8.out.didP hd9).below hb10)
                have hB1 := hd9.below_old HB8.out (Nat.le_refl _) HOL8.out
                have HBA := Go.Lib.hid (hB1.trans (hb10.mono hB1.size))
                have HRT : Hid (RelR cf T.m R fn ft bx) := Go.Lib.hid (by rw [HTM.out]; exact HRE.out)
                have HNT : Hid (T.n = cf.size) := Go.Lib.hid (HTN.out.trans HSN.out)
                clear hg9 hd9 ht9 hb10 HN8 HT8 HB8 HOL8 hB1 HRE HTM HTN HSC HTR HE8 HF
                go_wp2_with fail
                refine (core_Nodes HG.out).mono ?_
                rintro e w11 ⟨rfl, hb⟩
                replace HG := Go.Lib.hid (HG.out.below hb); replace HNA := Go.Lib.hid (HNA.out.below hb); replace HTA := Go.Lib.hid (HTA.out.below hb); replace HBA := Go.Lib.hid (HBA.out.trans (hb.mono HBA.out.size)); clear hb
                go_wp2_with fail
                refine (nodes_list HG.out HNT.out HRT.out.shop).mono ?_
                rintro e w12 ⟨v1, rfl, hown, hb⟩
                have hs1 := same_list w12 v1 v13 fn hown (HNA.out.below hb).own (shop_lens hok HRT.out.shop).1
                replace HG := Go.Lib.hid (HG.out.below hb); replace HTA := Go.Lib.hid (HTA.out.below hb); replace HBA := Go.Lib.hid (HBA.out.trans (hb.mono HBA.out.size)); clear hb hown HNA
                go_wp2_with fail
                refine hs1.mono ?_
                rintro e w12' ⟨rfl, m1, rfl⟩
                have hb := below_drewN (w := w12) m1
                replace HG := Go.Lib.hid (HG.out.below hb); replace HTA := Go.Lib.hid (HTA.out.below hb); replace HBA := Go.Lib.hid (HBA.out.trans (hb.mono HBA.out.size)); clear hb
                generalize w12.drewN m1 = w12' at *
                clear hs1
                go_wp2_with fail
                refine (core_Tickets HG.out).mono ?_
                rintro e w13 ⟨rfl, hb⟩
                replace HG := Go.Lib.hid (HG.out.below hb); replace HTA := Go.Lib.hid (HTA.out.below hb); replace HBA := Go.Lib.hid (HBA.out.trans (hb.mono HBA.out.size)); clear hb
                go_wp2_with fail
                refine (tickets_list HG.out HNT.out HRT.out.shop).mono ?_
                rintro e w14' ⟨v2, rfl, hown, hb⟩
                have hs1 := same_list w14' v2 v14 ft hown (HTA.out.below hb).own (shop_lens hok HRT.out.shop).2
                replace HBA := Go.Lib.hid (HBA.out.trans (hb.mono HBA.out.size)); clear hb hown HTA HG
                go_wp2_with fail
                refine hs1.mono ?_
                rintro e w15' ⟨rfl, m2, rfl⟩
                have hb := below_drewN (w := w14') m2
                replace HBA := Go.Lib.hid (HBA.out.trans (hb.mono HBA.out.size)); clear hb
                generalize w14'.drewN m2 = w15' at *
                clear hs1
                go_wp2
                go_ret
                exact ⟨rfl, HBA.out⟩)
  · rw [decide_eq_false hsm]
    clear HBG HEC HR
    go_wp2_with fail
    refine (law17_speaks _).mono ?_
    rintro e w3 ⟨rfl, hb1⟩
    have HB9 := Go.Lib.hid (HB.out.trans (hb1.mono HB.out.size))
    clear hb1
    go_wp2
    go_ret
    exact ⟨rfl, HB9.out⟩
end Go.Proofs.YtgemjjpmoejgdaaGreat
