/- A Cancel, a Rearm, a Migrate that is done alone. -/
import Derived.Test.YtgemjjpmoejgdaaGreatHri
namespace Go.Proofs.YtgemjjpmoejgdaaGreat
open Go.RowKit
set_option maxRecDepth 100000
set_option linter.unusedVariables false

/-- A ticket's key and time are written. -/
def wrM (c : Cf) (m : Nat → Nat) (t kw tm : Nat) : Nat → Nat := upd (upd m (c.ticketsAt + 3 * t) kw) (c.ticketsAt + 3 * t + 1) tm
theorem wrM_key {c : Cf} {m : Nat → Nat} {t kw tm : Nat} : wrM c m t kw tm (c.ticketsAt + 3 * t) = kw := by unfold wrM; rw [upd_other _ _ (by omega)]; exact upd_same _ _ _
theorem wrM_time {c : Cf} {m : Nat → Nat} {t kw tm : Nat} : wrM c m t kw tm (c.ticketsAt + 3 * t + 1) = tm := upd_same _ _ _
theorem wrM_rest {c : Cf} {m : Nat → Nat} {t kw tm : Nat} (j : Nat) (a : j ≠ c.ticketsAt + 3 * t) (b : j ≠ c.ticketsAt + 3 * t + 1) : wrM c m t kw tm j = m j := by unfold wrM; rw [upd_other _ _ b, upd_other _ _ a]
theorem Shop.write {c : Cf} {m : Nat → Nat} {fn ft : List Nat} {bx : Nat → List Nat} {t kw tm : Nat} (hok : c.Ok) (h : Shop c m fn ft bx) (ht : ∀ s, s < c.workers → t ∉ bx s) : Shop c (wrM c m t kw tm) fn ft bx := by
  have n9 := hok.nodesAt_le
  have hnt := nodes_tickets c
  refine h.same ?_ ?_ ?_ ?_ n9.1
  · intro j _ hj
    exact wrM_rest j (by omega) (by omega)
  · intro y hy
    have := nlk_lt hy
    exact wrM_rest _ (by omega) (by omega)
  · intro y hy
    exact wrM_rest _ (by unfold tlk; omega) (by unfold tlk; omega)
  · intro s' hs' y hy
    have hne : y ≠ t := fun e => ht s' hs' (e ▸ hy)
    exact wrM_rest _ (by omega) (by omega)
/-- A node's cell that is no link is turned. -/
theorem Shop.node {c : Cf} {m : Nat → Nat} {fn ft : List Nat} {bx : Nat → List Nat} {x j v : Nat} (hok : c.Ok) (h : Shop c m fn ft bx) (hx : x < c.nodes) (hj : j < 3) : Shop c (upd m (c.nodesAt + 4 * x + j) v) fn ft bx := by
  have n9 := hok.nodesAt_le
  have hnt : c.ticketsAt = c.nodesAt + 4 * c.nodes := rfl
  refine h.same ?_ ?_ ?_ ?_ n9.1
  · intro i _ hi
    exact upd_other _ _ (by omega)
  · intro y hy
    exact upd_other _ _ (by unfold nlk; omega)
  · intro y hy
    exact upd_other _ _ (by unfold tlk; omega)
  · intro s' hs' y hy
    exact upd_other _ _ (by omega)

section
variable {ρ : Type} {R0 : ρ → Arg → St → St × Option (K (PR ρ))} {c : Cf} {k : PR ρ} {S : St} {fn ft : List Nat} {bx : Nat → List Nat}
theorem cn0_u (w n g : Int) (T : St) : prApp c R0 (.cn0 w n g k) .u T = prApp c R0 k (.b false) (T.note (cancelPoint w n g false)) := by rw [prApp]
theorem cn1_yes' (w n g : Int) (x : Nat) (T : St) (h : armedW x g = true) : prApp c R0 (.cn1 w n g k) (.w x) T = (T, some (.cas (c.state n) x (stateWord (part x 32 32 : Nat) (part x 2 30 : Nat) 3) (.ret (.cn2 w n g k)))) := by rw [prApp, if_pos h]
theorem cn1_no' (w n g : Int) (x : Nat) (T : St) (h : armedW x g = false) : prApp c R0 (.cn1 w n g k) (.w x) T = prApp c R0 k (.b false) (T.note (cancelPoint w n g false)) := by rw [prApp, if_neg (by rw [h]; decide)]
theorem cn2_yes' (w n g : Int) (T : St) : prApp c R0 (.cn2 w n g k) (.b true) T = (T.note (cancelPoint w n g true), some (pushK .nodes n (.ret (.cn3 k)))) := by rw [prApp, if_pos rfl]
theorem cn3_u (T : St) : prApp c R0 (.cn3 k) .u T = prApp c R0 k (.b true) T := by rw [prApp]
theorem ra0_u (w n g er : Int) (T : St) : prApp c R0 (.ra0 w n g er k) .u T = prApp c R0 k (.he 0 0 er) (T.note (rearmPoint w n g 0 0 0 er)) := by rw [prApp]
theorem ra1_far (w n g ticks : Int) (x : Nat) (T : St) (hx : x ≤ 1073741823) (h : 1073741823 - (x : Int) < ticks) : prApp c R0 (.ra1 w n g ticks k) (.w x) T = prApp c R0 k (.he 0 0 2) (T.note (rearmPoint w n g 0 0 0 2)) := by
  rw [prApp, if_neg (by omega), toI_clock hx, if_pos h]
theorem ra1_near (w n g ticks : Int) (x : Nat) (T : St) (hx : x ≤ 1073741823) (h : ¬ 1073741823 - (x : Int) < ticks) : prApp c R0 (.ra1 w n g ticks k) (.w x) T = (T, some (.load (c.state n) (.ret (.ra2 w n g ((x : Int) + ticks) k)))) := by
  rw [prApp, if_neg (by omega), toI_clock hx, if_neg h]
theorem ra2_no' (w n g dl : Int) (x : Nat) (T : St) (h : armedW x g = false) : prApp c R0 (.ra2 w n g dl k) (.w x) T = prApp c R0 k (.he 0 0 4) (T.note (rearmPoint w n g 0 0 0 4)) := by rw [prApp, if_neg (by rw [h]; decide)]
theorem ra2_gone' (w n g dl : Int) (x : Nat) (T : St) (h : armedW x g = true) (hg : g = 4294967295) : prApp c R0 (.ra2 w n g dl k) (.w x) T = prApp c R0 k (.he 0 0 5) (T.note (rearmPoint w n g 0 0 0 5)) := by rw [prApp, if_pos h, if_pos hg]
theorem ra2_yes' (w n g dl : Int) (x : Nat) (T : St) (h : armedW x g = true) (hg : ¬ g = 4294967295) : prApp c R0 (.ra2 w n g dl k) (.w x) T = (T, some (popK .tickets (.ret (.ra3 w n g x dl k)))) := by rw [prApp, if_pos h, if_neg hg]
theorem ra3_yes' (w n g dl t : Int) (x : Nat) (T : St) : prApp c R0 (.ra3 w n g x dl k) (.pop t true) T = (T, some (writeK c t (g + 1) 0 n dl (.ret (.ra4 w n g x t dl k)))) := by rw [prApp, if_pos rfl]
theorem ra3_no' (w n g dl t : Int) (x : Nat) (T : St) : prApp c R0 (.ra3 w n g x dl k) (.pop t false) T = prApp c R0 k (.he 0 0 3) (T.note (rearmPoint w n g 0 0 0 3)) := by rw [prApp, if_neg (by decide)]
theorem ra4_u (w n g dl t : Int) (x : Nat) (T : St) : prApp c R0 (.ra4 w n g x t dl k) .u T = (T, some (.cas (c.state n) x (stateWord (g + 1) dl 1) (.ret (.ra5 w n g t dl k)))) := by rw [prApp]
theorem ra5_yes' (w n g dl t : Int) (T : St) : prApp c R0 (.ra5 w n g t dl k) (.b true) T = (T.note (rearmPoint w n g n (g + 1) dl 0), some (putK c w t (.ra6 n (g + 1) k))) := by rw [prApp, if_pos rfl]
theorem ra6_u (n g : Int) (T : St) : prApp c R0 (.ra6 n g k) .u T = prApp c R0 k (.he n g 0) T := by rw [prApp]
theorem cancel_stale {w n g : Int} (h : c.state n < 0) (i : Nat) : iter c (prApp c R0) (i + 1) (some (cancelK c w n g k)) S = iterR c (prApp c R0) i (prApp c R0 k (.b false) (S.note (cancelPoint w n g false))) := by
  unfold cancelK
  rw [if_pos h, it_idle, app_ret, cn0_u]
theorem state_nat {x : Nat} (hx : x < c.nodes) : ¬ c.state (x : Int) < 0 := by rw [state_at c x hx]; omega
theorem cancel_no {w g : Int} {x : Nat} (hx : x < c.nodes) (hn : S.n = c.size) (h : armedW (S.m (c.nodesAt + 4 * x)) g = false) (i : Nat) : iter c (prApp c R0) (i + 1) (some (cancelK c w x g k)) S = iterR c (prApp c R0) i (prApp c R0 k (.b false) ((S.w 1 S.m).note (cancelPoint w x g false))) := by
  have hl := nlk_lt hx
  have hts : c.ticketsAt ≤ c.size := by unfold Cf.size Cf.connsAt; omega
  unfold cancelK
  rw [if_neg (state_nat hx), state_at c x hx, it_load (by unfold nlk at hl; omega), app_ret, cn1_no' _ _ _ _ _ h]
theorem cancel_yes {w g : Int} {x : Nat} (hok : c.Ok) (hx : x < c.nodes) (hn : S.n = c.size) (h : armedW (S.m (c.nodesAt + 4 * x)) g = true) (hs : Shop c S.m fn ft bx) (hf : x ∉ fn) :
    ∃ m', (∀ i, iter c (prApp c R0) (i + 5) (some (cancelK c w x g k)) S = iterR c (prApp c R0) i (prApp c R0 k (.b true) ((S.w 5 m').note (cancelPoint w x g true)))) ∧ Shop c m' (x :: fn) ft bx ∧
      m' (c.nodesAt + 4 * x) = stateWord (part (S.m (c.nodesAt + 4 * x)) 32 32 : Nat) (part (S.m (c.nodesAt + 4 * x)) 2 30 : Nat) 3 ∧ ∀ j, j ≠ 1 → j ≠ nlk c x → j ≠ c.nodesAt + 4 * x → m' j = S.m j := by
  have hl := nlk_lt hx
  have n9 := hok.nodesAt_le
  have hts : c.ticketsAt ≤ c.size := by unfold Cf.size Cf.connsAt; omega
  have hnode := hs.node (x := x) (j := 0) (v := stateWord (part (S.m (c.nodesAt + 4 * x)) 32 32 : Nat) (part (S.m (c.nodesAt + 4 * x)) 2 30 : Nat) 3) hok hx (by decide)
  rw [Nat.add_zero] at hnode
  have hms : upd S.m (c.nodesAt + 4 * x) (stateWord (part (S.m (c.nodesAt + 4 * x)) 32 32 : Nat) (part (S.m (c.nodesAt + 4 * x)) 2 30 : Nat) 3) (c.nodesAt + 4 * x) = stateWord (part (S.m (c.nodesAt + 4 * x)) 32 32 : Nat) (part (S.m (c.nodesAt + 4 * x)) 2 30 : Nat) 3 := upd_same _ _ _
  have hmr : ∀ j, j ≠ c.nodesAt + 4 * x → upd S.m (c.nodesAt + 4 * x) (stateWord (part (S.m (c.nodesAt + 4 * x)) 32 32 : Nat) (part (S.m (c.nodesAt + 4 * x)) 2 30 : Nat) 3) j = S.m j := fun j hj => upd_other _ _ hj
  have hrun : ∀ i, iter c (prApp c R0) (i + 5) (some (cancelK c w x g k)) S = iter c (prApp c R0) (i + 3) (some (pushK .nodes x (.ret (.cn3 k)))) (((S.w 2 (upd S.m (c.nodesAt + 4 * x) (stateWord (part (S.m (c.nodesAt + 4 * x)) 32 32 : Nat) (part (S.m (c.nodesAt + 4 * x)) 2 30 : Nat) 3)))).note (cancelPoint w x g true)) := by
    intro i
    unfold cancelK
    rw [if_neg (state_nat hx), state_at c x hx, show i + 5 = (i + 4) + 1 from rfl, it_load (by unfold nlk at hl; omega), app_ret, cn1_yes' _ _ _ _ _ h, iterR_some, state_at c x hx, show i + 4 = (i + 3) + 1 from rfl, it_cas (S := S.w 1 S.m) (i := c.nodesAt + 4 * x) (old := S.m (c.nodesAt + 4 * x)) (by show _ < S.n; unfold nlk at hl; omega) rfl, app_ret, cn2_yes', iterR_some]
    simp only [St.w_w, St.w_m]
  generalize upd S.m (c.nodesAt + 4 * x) (stateWord (part (S.m (c.nodesAt + 4 * x)) 32 32 : Nat) (part (S.m (c.nodesAt + 4 * x)) 2 30 : Nat) 3) = m1 at *
  refine ⟨upd (upd m1 (nlk c x) (part (m1 1) 0 32)) 1 (turned (m1 1) x), fun i => ?_, hnode.pushNode hok hx hf, ?_, fun j a b d => by rw [upd_other _ _ a, upd_other _ _ b]; exact hmr j d⟩
  · rw [hrun, it_push (st := .nodes) (cf := c) (i := (x : Int)) (l := nlk c x) (by show 1 < S.n; omega) (nodeLink_at c x hx) (by show nlk c x < S.n; omega) (by show nlk c x ≠ 1; omega), app_ret, cn3_u]
    simp only [St.w_w, St.w_m, St.w_note, St.note_m, Stk.headN]
  · rw [upd_other _ _ (by omega), upd_other _ _ (by unfold nlk; omega)]
    exact hms

theorem rearm_arg {w n g ticks : Int} (h : ticks < 0) (i : Nat) : iter c (prApp c R0) (i + 1) (some (rearmK c w n g ticks k)) S = iterR c (prApp c R0) i (prApp c R0 k (.he 0 0 1) (S.note (rearmPoint w n g 0 0 0 1))) := by
  unfold rearmK
  rw [if_pos h, it_idle, app_ret, ra0_u]
theorem rearm_stale {w n g ticks : Int} (h : ¬ ticks < 0) (h2 : c.state n < 0) (i : Nat) : iter c (prApp c R0) (i + 1) (some (rearmK c w n g ticks k)) S = iterR c (prApp c R0) i (prApp c R0 k (.he 0 0 4) (S.note (rearmPoint w n g 0 0 0 4))) := by
  unfold rearmK
  rw [if_neg h, if_pos h2, it_idle, app_ret, ra0_u]
theorem rearm_load {w g ticks : Int} {x : Nat} (h : ¬ ticks < 0) (hx : x < c.nodes) (h0 : 0 < S.n) (i : Nat) : iter c (prApp c R0) (i + 1) (some (rearmK c w x g ticks k)) S = iterR c (prApp c R0) i (prApp c R0 (.ra1 w x g ticks k) (.w (S.m 0)) (S.w 1 S.m)) := by
  unfold rearmK
  rw [if_neg h, if_neg (state_nat hx)]
  show iter c (prApp c R0) (i + 1) (some (.load ((0 : Nat) : Int) (.ret (.ra1 w x g ticks k)))) S = _
  rw [it_load h0, app_ret]
theorem rearm_range {w g ticks : Int} {x : Nat} (h : ¬ ticks < 0) (hx : x < c.nodes) (h0 : 0 < S.n) (hc : S.m 0 ≤ 1073741823) (hf : 1073741823 - (S.m 0 : Int) < ticks) (i : Nat) :
    iter c (prApp c R0) (i + 1) (some (rearmK c w x g ticks k)) S = iterR c (prApp c R0) i (prApp c R0 k (.he 0 0 2) ((S.w 1 S.m).note (rearmPoint w x g 0 0 0 2))) := by
  rw [rearm_load h hx h0, ra1_far _ _ _ _ _ _ hc hf]
theorem rearm_look {w g ticks : Int} {x : Nat} (h : ¬ ticks < 0) (hx : x < c.nodes) (hok : c.Ok) (hn : S.n = c.size) (hc : S.m 0 ≤ 1073741823) (hf : ¬ 1073741823 - (S.m 0 : Int) < ticks) (i : Nat) :
    iter c (prApp c R0) (i + 2) (some (rearmK c w x g ticks k)) S = iterR c (prApp c R0) i (prApp c R0 (.ra2 w x g ((S.m 0 : Int) + ticks) k) (.w (S.m (c.nodesAt + 4 * x))) (S.w 2 S.m)) := by
  have hl := nlk_lt hx
  have hsz := hok.size_le
  have hts : c.ticketsAt ≤ c.size := by unfold Cf.size Cf.connsAt; omega
  rw [rearm_load h hx (by omega) (i + 1), ra1_near _ _ _ _ _ _ hc hf, iterR_some, state_at c x hx, it_load (by show _ < S.n; unfold nlk at hl; omega), app_ret]
  simp only [St.w_w, St.w_m]
theorem rearm_no {w g ticks : Int} {x : Nat} (h : ¬ ticks < 0) (hx : x < c.nodes) (hok : c.Ok) (hn : S.n = c.size) (hc : S.m 0 ≤ 1073741823) (hf : ¬ 1073741823 - (S.m 0 : Int) < ticks) (ha : armedW (S.m (c.nodesAt + 4 * x)) g = false) (i : Nat) :
    iter c (prApp c R0) (i + 2) (some (rearmK c w x g ticks k)) S = iterR c (prApp c R0) i (prApp c R0 k (.he 0 0 4) ((S.w 2 S.m).note (rearmPoint w x g 0 0 0 4))) := by
  rw [rearm_look h hx hok hn hc hf, ra2_no' _ _ _ _ _ _ ha]
theorem rearm_gone {w g ticks : Int} {x : Nat} (h : ¬ ticks < 0) (hx : x < c.nodes) (hok : c.Ok) (hn : S.n = c.size) (hc : S.m 0 ≤ 1073741823) (hf : ¬ 1073741823 - (S.m 0 : Int) < ticks) (ha : armedW (S.m (c.nodesAt + 4 * x)) g = true) (hg : g = 4294967295) (i : Nat) :
    iter c (prApp c R0) (i + 2) (some (rearmK c w x g ticks k)) S = iterR c (prApp c R0) i (prApp c R0 k (.he 0 0 5) ((S.w 2 S.m).note (rearmPoint w x g 0 0 0 5))) := by
  rw [rearm_look h hx hok hn hc hf, ra2_gone' _ _ _ _ _ _ ha hg]
theorem rearm_full {w g ticks : Int} {x : Nat} (h : ¬ ticks < 0) (hx : x < c.nodes) (hok : c.Ok) (hn : S.n = c.size) (hc : S.m 0 ≤ 1073741823) (hf : ¬ 1073741823 - (S.m 0 : Int) < ticks) (ha : armedW (S.m (c.nodesAt + 4 * x)) g = true) (hg : ¬ g = 4294967295) (hs : Shop c S.m fn [] bx) (i : Nat) :
    iter c (prApp c R0) (i + 3) (some (rearmK c w x g ticks k)) S = iterR c (prApp c R0) i (prApp c R0 k (.he 0 0 3) ((S.w 3 S.m).note (rearmPoint w x g 0 0 0 3))) := by
  have hsz := hok.size_le
  rw [show i + 3 = (i + 1) + 2 from rfl, rearm_look h hx hok hn hc hf, ra2_yes' _ _ _ _ _ _ ha hg, iterR_some, it_pop_none (st := .tickets) (S := S.w 2 S.m) (by show 2 < S.n; omega) hs.tickets, app_ret, ra3_no', St.w_w, St.w_m]
/-- What a Rearm or a Migrate that succeeds leaves: of the node's cells only that at j. -/
structure Turned (c : Cf) (m m' : Nat → Nat) (x t s j : Nat) (cw kw tm : Nat) : Prop where
  cell : m' (c.nodesAt + 4 * x + j) = cw
  key : m' (c.ticketsAt + 3 * t) = kw
  time : m' (c.ticketsAt + 3 * t + 1) = tm
  rest : ∀ i, i ≠ 2 → i ≠ inb c s → i ≠ c.nodesAt + 4 * x + j → i ≠ c.ticketsAt + 3 * t → i ≠ c.ticketsAt + 3 * t + 1 → (∀ y, y < c.tickets → i ≠ tlk c y) → m' i = m i
theorem armedW_eq {x : Nat} {g : Int} (h : armedW x g = true) : part x 0 2 = 1 ∧ ((part x 32 32 : Nat) : Int) = g := of_decide_eq_true h
theorem rearm_ok {s : Nat} {w g ticks : Int} {x t : Nat} (hsw : w = (s : Int)) (hsl : s < c.workers) (h : ¬ ticks < 0) (hx : x < c.nodes) (hok : c.Ok) (hn : S.n = c.size) (hc : S.m 0 ≤ 1073741823) (hf : ¬ 1073741823 - (S.m 0 : Int) < ticks) (ha : armedW (S.m (c.nodesAt + 4 * x)) g = true) (hg : ¬ g = 4294967295)
    (hs : Shop c S.m fn (t :: ft) bx) : ∃ d m' ms, (∀ i, iter c (prApp c R0) (i + d) (some (rearmK c w x g ticks k)) S = iterR c (prApp c R0) i (prApp c R0 k (.he x (g + 1) 0) ((S.w d m').note (rearmPoint w x g x (g + 1) ((S.m 0 : Int) + ticks) 0)))) ∧
      d ≤ 8 * ((bx s).takeWhile (deadM c ms)).length + 13 ∧ 1 ≤ d ∧ Shop c m' fn (((bx s).takeWhile (deadM c ms)).reverse ++ ft) (setB bx s (t :: (bx s).dropWhile (deadM c ms))) ∧
      Turned c S.m m' x t s 0 (stateWord (g + 1) ((S.m 0 : Int) + ticks) 1) (keyWord (g + 1) 0 x) (toU (upI ((S.m 0 : Int) + ticks) c.slack)) ∧
      (∀ j, j ≠ 2 → j ≠ c.nodesAt + 4 * x → j ≠ c.ticketsAt + 3 * t → j ≠ c.ticketsAt + 3 * t + 1 → ms j = S.m j) ∧ ms (c.nodesAt + 4 * x) = stateWord (g + 1) ((S.m 0 : Int) + ticks) 1 := by
  have hsz := hok.size_le
  have htn : t < c.tickets := hs.tlt t (List.mem_cons_self ..)
  have n9 := hok.nodesAt_le
  have n2 := hok.n2
  have t2 := hok.t2
  have hl := nlk_lt hx
  have htl := tlk_lt htn
  have hts : c.ticketsAt ≤ c.size := by unfold Cf.size Cf.connsAt; omega
  have hnt : c.ticketsAt = c.nodesAt + 4 * c.nodes := rfl
  have hgq := armedW_eq ha
  have hgl : part (S.m (c.nodesAt + 4 * x)) 32 32 < 4294967296 := Nat.mod_lt _ (by decide)
  obtain ⟨gn, rfl⟩ : ∃ gn : Nat, g = (gn : Int) := ⟨part (S.m (c.nodesAt + 4 * x)) 32 32, hgq.2.symm⟩
  have hs2 := hs.popTicket hok
  have hle := hs.tickets.2.head_le (n := c.tickets) fun y hy => hs.tlt y (List.mem_cons_of_mem _ hy)
  have e2 : ∀ j, j ≠ 2 → upd S.m 2 (turned (S.m 2) ((S.m (tlk c t) : Int) - 1)) j = S.m j := fun j hj => upd_other _ _ hj
  have hpop := fun n => it_pop (R := prApp c R0) (cf := c) (c := .ret (.ra3 w x gn (S.m (c.nodesAt + 4 * x)) ((S.m 0 : Int) + ticks) k)) (S := S.w 2 S.m) (st := .tickets) (f := t) (l := tlk c t) (n := n) (by show 2 < S.n; omega) hs.tickets.1 (ticketLink_at c t htn) (by show tlk c t < S.n; omega) (by show S.m (tlk c t) ≤ _; omega)
  simp only [St.w_w, St.w_m, Stk.headN] at hpop
  generalize hm2 : upd S.m 2 (turned (S.m 2) ((S.m (tlk c t) : Int) - 1)) = m2 at *
  have htb : ∀ s', s' < c.workers → t ∉ bx s' := fun s' hs' => hs.tb s' hs' t (List.mem_cons_self ..)
  have hs3 := (hs2.write (t := t) (kw := keyWord ((gn : Int) + 1) 0 x) (tm := toU (upI ((S.m 0 : Int) + ticks) c.slack)) hok htb).node (x := x) (j := 0) (v := stateWord ((gn : Int) + 1) ((S.m 0 : Int) + ticks) 1) hok hx (by decide)
  rw [Nat.add_zero] at hs3
  have hst : wrM c m2 t (keyWord ((gn : Int) + 1) 0 x) (toU (upI ((S.m 0 : Int) + ticks) c.slack)) (c.nodesAt + 4 * x) = S.m (c.nodesAt + 4 * x) := by rw [wrM_rest _ (by omega) (by omega), e2 _ (by omega)]
  have hrun : ∀ i, iter c (prApp c R0) (i + 8) (some (rearmK c w x gn ticks k)) S = iter c (prApp c R0) i (some (putK c s t (.ra6 x ((gn : Int) + 1) k))) ((S.note (rearmPoint w x gn x ((gn : Int) + 1) ((S.m 0 : Int) + ticks) 0)).w 8 (upd (wrM c m2 t (keyWord ((gn : Int) + 1) 0 x) (toU (upI ((S.m 0 : Int) + ticks) c.slack))) (c.nodesAt + 4 * x) (stateWord ((gn : Int) + 1) ((S.m 0 : Int) + ticks) 1))) := by
    intro i
    rw [show i + 8 = (i + 6) + 2 from rfl, rearm_look h hx hok hn hc hf, ra2_yes' _ _ _ _ _ _ ha hg, iterR_some, show i + 6 = (i + 3) + 3 from rfl, hpop, app_ret, ra3_yes', iterR_some, show i + 3 = (i + 1) + 2 from rfl,
      it_write (k := c.ticketsAt + 3 * t) (t0 := c.ticketsAt + 3 * t + 1) (ticket_at c t htn 0) (ticket_at c t htn 1) (by show _ < S.n; unfold tlk at htl; omega) (by show _ < S.n; unfold tlk at htl; omega), app_ret, ra4_u, iterR_some, state_at c x hx, it_cas (by show _ < S.n; omega) (by exact hst), app_ret, ra5_yes', iterR_some, hsw]
    simp only [St.w_w, St.w_m, St.w_note, St.note_m]
    rfl
  have f0 : upd (wrM c m2 t (keyWord ((gn : Int) + 1) 0 x) (toU (upI ((S.m 0 : Int) + ticks) c.slack))) (c.nodesAt + 4 * x) (stateWord ((gn : Int) + 1) ((S.m 0 : Int) + ticks) 1) (c.nodesAt + 4 * x) = stateWord ((gn : Int) + 1) ((S.m 0 : Int) + ticks) 1 := upd_same _ _ _
  have f1 : upd (wrM c m2 t (keyWord ((gn : Int) + 1) 0 x) (toU (upI ((S.m 0 : Int) + ticks) c.slack))) (c.nodesAt + 4 * x) (stateWord ((gn : Int) + 1) ((S.m 0 : Int) + ticks) 1) (c.ticketsAt + 3 * t) = keyWord ((gn : Int) + 1) 0 x := by rw [upd_other _ _ (by omega)]; exact wrM_key
  have f2 : upd (wrM c m2 t (keyWord ((gn : Int) + 1) 0 x) (toU (upI ((S.m 0 : Int) + ticks) c.slack))) (c.nodesAt + 4 * x) (stateWord ((gn : Int) + 1) ((S.m 0 : Int) + ticks) 1) (c.ticketsAt + 3 * t + 1) = toU (upI ((S.m 0 : Int) + ticks) c.slack) := by rw [upd_other _ _ (by omega)]; exact wrM_time
  have f3 : ∀ j, j ≠ c.nodesAt + 4 * x → j ≠ c.ticketsAt + 3 * t → j ≠ c.ticketsAt + 3 * t + 1 → upd (wrM c m2 t (keyWord ((gn : Int) + 1) 0 x) (toU (upI ((S.m 0 : Int) + ticks) c.slack))) (c.nodesAt + 4 * x) (stateWord ((gn : Int) + 1) ((S.m 0 : Int) + ticks) 1) j = m2 j := fun j a b d => by rw [upd_other _ _ a]; exact wrM_rest j b d
  generalize upd (wrM c m2 t (keyWord ((gn : Int) + 1) 0 x) (toU (upI ((S.m 0 : Int) + ticks) c.slack))) (c.nodesAt + 4 * x) (stateWord ((gn : Int) + 1) ((S.m 0 : Int) + ticks) 1) = m3 at *
  obtain ⟨d, m', hi, hd, hsp, hfr⟩ := put_alone (R0 := R0) hok hsl htn (fn := fn) (bx s) (S := (S.note (rearmPoint w x gn x ((gn : Int) + 1) ((S.m 0 : Int) + ticks) 0)).w 8 m3) (ft := ft) (bx := bx) rfl hn hs3 (List.nodup_cons.1 hs.tnd).1 htb (by
    show part (m3 _) 0 16 < _
    rw [f1]
    have := (key_parts3 (gn + 1) 0 x (by omega) (by omega) (by omega)).2.2
    rw [Int.natCast_add] at this
    have e : part (keyWord ((gn : Int) + 1) 0 x) 0 16 = x := this
    rw [e]; exact hx)
  have hib := inb_bd hsl
  refine ⟨8 + d, m', m3, ?_, ?_, by omega, hsp, ⟨?_, ?_, ?_, ?_⟩, ?_, f0⟩
  · intro i
    rw [show i + (8 + d) = (i + d) + 8 by omega, hrun, hi, ra6_u]
    simp only [St.w_w, St.w_note]
  · have hd' : d ≤ 8 * ((bx s).takeWhile (deadM c m3)).length + 5 := hd
    omega
  · exact (hfr _ (by omega) (by omega) (fun y hy => by have := tlk_lt hy; omega)).trans f0
  · exact (hfr _ (by omega) (by omega) (fun y hy => by unfold tlk; omega)).trans f1
  · exact (hfr _ (by omega) (by omega) (fun y hy => by unfold tlk; omega)).trans f2
  · intro j j1 j2 j3 j4 j5 j6
    rw [hfr j j2 j1 j6]
    show m3 j = S.m j
    rw [f3 j (by omega) j4 j5, e2 j j1]
  · intro j j1 j2 j3 j4
    rw [f3 j j2 j3 j4, e2 j j1]

end
end Go.Proofs.YtgemjjpmoejgdaaGreat
/- The document's shop, and that the cells hold it: what deeds that are done alone turn. -/
namespace Go.Proofs.YtgemjjpmoejgdaaGreat
open Go.RowKit
set_option maxRecDepth 100000
set_option linter.unusedVariables false

structure NodeR where
  gen : Nat
  time : Nat
  status : Nat
  user : Nat
  hgen : Nat
  hver : Nat
  hshard : Nat
  deriving Inhabited
structure TickR where
  node : Nat
  gen : Nat
  ver : Nat
  due : Nat
structure ShopR where
  clock : Nat
  free : List Nat
  tickets : Nat
  nodes : List NodeR
  boxes : List (List TickR)
def dueR (slack deadline : Nat) : Nat := toU (upI deadline slack)
def deadR (N : List NodeR) (t : TickR) : Bool := !((N[t.node]?).any fun n => decide (n.status = 1 ∧ n.gen = t.gen))
/-- A ticket is laid into a box: the dead ones that are first are freed. -/
def layR (R : ShopR) (s : Nat) (t : TickR) : ShopR :=
  { R with tickets := R.tickets + ((R.boxes.getD s []).takeWhile (deadR R.nodes)).length, boxes := R.boxes.set s (t :: (R.boxes.getD s []).dropWhile (deadR R.nodes)) }
def shardR (R : ShopR) (s : Int) : Prop := 0 ≤ s ∧ s < R.boxes.length
instance (R : ShopR) (s : Int) : Decidable (shardR R s) := by unfold shardR; infer_instance
/-- A Start: the shop; the node, the generation, the error. -/
def startR (slack : Nat) (R : ShopR) (ticks shard user : Int) : ShopR × Int × Int × Int :=
  if ticks < 0 ∨ user < 0 ∨ ¬ shardR R shard then (R, 0, 0, 1)
  else if 1073741823 - (R.clock : Int) < ticks then (R, 0, 0, 2)
  else match R.free with
    | [] => (R, 0, 0, 3)
    | x :: fs =>
      if (R.nodes.getD x default).gen = 4294967295 then ({ R with free := fs }, 0, 0, 5)
      else if R.tickets = 0 then (R, 0, 0, 3)
      else (layR { R with free := fs, tickets := R.tickets - 1, nodes := R.nodes.set x { R.nodes.getD x default with gen := (R.nodes.getD x default).gen + 1, time := R.clock + ticks.toNat, status := 1, user := user.toNat } } shard.toNat
          ⟨x, (R.nodes.getD x default).gen + 1, 0, dueR slack (R.clock + ticks.toNat)⟩, (x : Int), ((R.nodes.getD x default).gen + 1 : Nat), 0)
def nodeR (R : ShopR) (n : Int) : Prop := 0 ≤ n ∧ n < R.nodes.length
instance (R : ShopR) (s : Int) : Decidable (nodeR R s) := by unfold nodeR; infer_instance
def armedR (R : ShopR) (n g : Int) : Bool := decide (nodeR R n ∧ (R.nodes.getD n.toNat default).status = 1 ∧ ((R.nodes.getD n.toNat default).gen : Int) = g)
def cancelR (R : ShopR) (n g : Int) : ShopR × Bool :=
  if armedR R n g then ({ R with nodes := R.nodes.set n.toNat { R.nodes.getD n.toNat default with status := 3 }, free := n.toNat :: R.free }, true) else (R, false)
def rearmR (slack : Nat) (R : ShopR) (w : Nat) (n g ticks : Int) : ShopR × Int × Int × Int :=
  if ticks < 0 then (R, 0, 0, 1) else if ¬ nodeR R n then (R, 0, 0, 4) else if 1073741823 - (R.clock : Int) < ticks then (R, 0, 0, 2) else if armedR R n g = false then (R, 0, 0, 4) else if g = 4294967295 then (R, 0, 0, 5) else if R.tickets = 0 then (R, 0, 0, 3)
  else (layR { R with tickets := R.tickets - 1, nodes := R.nodes.set n.toNat { R.nodes.getD n.toNat default with gen := (R.nodes.getD n.toNat default).gen + 1, time := R.clock + ticks.toNat } } w
      ⟨n.toNat, (R.nodes.getD n.toNat default).gen + 1, 0, dueR slack (R.clock + ticks.toNat)⟩, n, ((R.nodes.getD n.toNat default).gen + 1 : Nat), 0)
/-- A node's cells hold it. -/
structure NodeOk (c : Cf) (m : Nat → Nat) (x : Nat) (n : NodeR) : Prop where
  gen : part (m (c.nodesAt + 4 * x)) 32 32 = n.gen
  status : part (m (c.nodesAt + 4 * x)) 0 2 = n.status
  time : n.status = 1 → part (m (c.nodesAt + 4 * x)) 2 30 = n.time
  user : n.status = 1 → m (c.nodesAt + 4 * x + 2) = n.user
  hgen : part (m (c.nodesAt + 4 * x + 1)) 32 32 = n.hgen
  hver : part (m (c.nodesAt + 4 * x + 1)) 16 16 = n.hver
  hshard : part (m (c.nodesAt + 4 * x + 1)) 0 16 = n.hshard
/-- What a ticket's cells hold. -/
def tickOf (c : Cf) (m : Nat → Nat) (t : Nat) : TickR := ⟨part (m (c.ticketsAt + 3 * t)) 0 16, part (m (c.ticketsAt + 3 * t)) 32 32, part (m (c.ticketsAt + 3 * t)) 16 16, m (c.ticketsAt + 3 * t + 1)⟩
/-- The cells hold the shop. -/
structure RelR (c : Cf) (m : Nat → Nat) (R : ShopR) (fn ft : List Nat) (bx : Nat → List Nat) : Prop where
  shop : Shop c m fn ft bx
  clock : m 0 = R.clock
  cl : R.clock ≤ 1073741823
  free : R.free = fn
  tickets : R.tickets = ft.length
  nl : R.nodes.length = c.nodes
  node : ∀ x n, R.nodes[x]? = some n → NodeOk c m x n
  bl : R.boxes.length = c.workers
  box : ∀ s, s < c.workers → R.boxes.getD s [] = (bx s).map (tickOf c m)
  idle : ∀ x ∈ fn, ¬ part (m (c.nodesAt + 4 * x)) 0 2 = 1

theorem takeWhile_map' {α β : Type} (f : α → β) (p : β → Bool) : ∀ l : List α, (l.map f).takeWhile p = (l.takeWhile fun x => p (f x)).map f
  | [] => rfl
  | x :: l => by
    rw [List.map_cons, List.takeWhile_cons, List.takeWhile_cons]
    cases p (f x)
    · rfl
    · rw [if_pos rfl, if_pos rfl, List.map_cons, takeWhile_map' f p l]
theorem dropWhile_map' {α β : Type} (f : α → β) (p : β → Bool) : ∀ l : List α, (l.map f).dropWhile p = (l.dropWhile fun x => p (f x)).map f
  | [] => rfl
  | x :: l => by
    rw [List.map_cons, List.dropWhile_cons, List.dropWhile_cons]
    cases p (f x)
    · rfl
    · rw [if_pos rfl, if_pos rfl, dropWhile_map' f p l]
theorem takeWhile_congr' {α : Type} {p q : α → Bool} : ∀ {l : List α}, (∀ x ∈ l, p x = q x) → l.takeWhile p = l.takeWhile q ∧ l.dropWhile p = l.dropWhile q
  | [], _ => ⟨rfl, rfl⟩
  | x :: l, h => by
    obtain ⟨h1, h2⟩ := takeWhile_congr' (l := l) fun y hy => h y (List.mem_cons_of_mem _ hy)
    rw [List.takeWhile_cons, List.takeWhile_cons, List.dropWhile_cons, List.dropWhile_cons, h x (List.mem_cons_self ..), h1, h2]
    exact ⟨rfl, rfl⟩
theorem nodup_len : ∀ (n : Nat) (xs : List Nat), xs.Nodup → (∀ x ∈ xs, x < n) → xs.length ≤ n := by
  intro n
  induction n with
  | zero =>
    intro xs _ h
    cases xs with
    | nil => exact Nat.le_refl _
    | cons x xs => have := h x (List.mem_cons_self ..); omega
  | succ n ih =>
    intro xs hn h
    have h1 := ih (xs.erase n) (hn.erase n) fun x hx => by
      have h2 := (List.Nodup.mem_erase_iff hn).1 hx
      have := h x h2.2
      omega
    have h3 := List.length_erase (a := n) (l := xs)
    split at h3 <;> omega
theorem dead_alive {c : Cf} {m : Nat → Nat} {N : List NodeR} (hl : N.length = c.nodes) (hN : ∀ x n, N[x]? = some n → NodeOk c m x n) {t : Nat} (ht : part (m (c.ticketsAt + 3 * t)) 0 16 < c.nodes) : deadM c m t = deadR N (tickOf c m t) := by
  have hlt : part (m (c.ticketsAt + 3 * t)) 0 16 < N.length := by rw [hl]; exact ht
  have he : N[part (m (c.ticketsAt + 3 * t)) 0 16]? = some N[part (m (c.ticketsAt + 3 * t)) 0 16] := List.getElem?_eq_getElem hlt
  have hk := hN _ _ he
  unfold deadM deadR tickOf
  dsimp only
  rw [he, Option.any_some, ← hk.gen, ← hk.status]
  rw [← decide_not]
  refine decide_eq_decide.2 ?_
  constructor
  · rintro (h | h) ⟨h1, h2⟩
    · exact h h1
    · exact h (by rw [h2])
  · intro h
    by_cases h1 : part (m (c.nodesAt + 4 * part (m (c.ticketsAt + 3 * t)) 0 16)) 0 2 = 1
    · exact .inr fun q => h ⟨h1, by omega⟩
    · exact .inl h1
theorem getD_set_eq {α : Type} (l : List α) (s : Nat) (v d : α) (h : s < l.length) : (l.set s v).getD s d = v := by simp [h]
theorem getD_set_ne' {α : Type} (l : List α) {s s' : Nat} (v d : α) (h : s' ≠ s) : (l.set s v).getD s' d = l.getD s' d := by
  simp [Ne.symm h]
/-- A ticket is laid: what the cells hold behind it. -/
theorem lay_rel {c : Cf} {m m' ms : Nat → Nat} {R : ShopR} {fn ft fn' : List Nat} {bx : Nat → List Nat} {t s : Nat} {N' : List NodeR} {tick : TickR} (hr : RelR c m R fn (t :: ft) bx) (hs : s < c.workers)
    (hsp : Shop c m' fn' (((bx s).takeWhile (deadM c ms)).reverse ++ ft) (setB bx s (t :: (bx s).dropWhile (deadM c ms))))
    (hkey : ∀ x, x < c.tickets → x ≠ t → m' (c.ticketsAt + 3 * x) = m (c.ticketsAt + 3 * x) ∧ m' (c.ticketsAt + 3 * x + 1) = m (c.ticketsAt + 3 * x + 1) ∧ ms (c.ticketsAt + 3 * x) = m (c.ticketsAt + 3 * x))
    (hst : ∀ y, y < c.nodes → ms (c.nodesAt + 4 * y) = m' (c.nodesAt + 4 * y)) (h0 : m' 0 = m 0) (hN : N'.length = c.nodes) (hNok : ∀ x n, N'[x]? = some n → NodeOk c m' x n) (htk : tickOf c m' t = tick) (hidle : ∀ x ∈ fn', ¬ part (m' (c.nodesAt + 4 * x)) 0 2 = 1) :
    RelR c m' (layR { R with free := fn', tickets := R.tickets - 1, nodes := N' } s tick) fn' (((bx s).takeWhile (deadM c ms)).reverse ++ ft) (setB bx s (t :: (bx s).dropWhile (deadM c ms))) := by
  have htn : ∀ s', s' < c.workers → ∀ x ∈ bx s', x ≠ t := fun s' hs' x hx e => hr.shop.tb s' hs' t (List.mem_cons_self ..) (e ▸ hx)
  have htick : ∀ s', s' < c.workers → ∀ x ∈ bx s', tickOf c m' x = tickOf c m x := fun s' hs' x hx => by
    obtain ⟨a, b, _⟩ := hkey x (hr.shop.blt s' hs' x hx) (htn s' hs' x hx)
    unfold tickOf
    rw [a, b]
  have hcong := takeWhile_congr' (p := deadM c ms) (q := fun x => deadR N' (tickOf c m x)) (l := bx s) fun x hx => by
    obtain ⟨a, b, d⟩ := hkey x (hr.shop.blt s hs x hx) (htn s hs x hx)
    have hk := hr.shop.key s hs x hx
    have h1 := dead_alive (c := c) (m := m') (N := N') hN hNok (t := x) (by rw [a]; exact hk)
    rw [htick s hs x hx] at h1
    rw [← h1]
    exact deadM_same (by rw [a, d]) (by rw [a]; exact hst _ hk)
  have hb := hr.box s hs
  have e1 : (R.boxes.getD s []).takeWhile (deadR N') = ((bx s).takeWhile (deadM c ms)).map (tickOf c m) := by rw [hb, takeWhile_map', hcong.1]
  have e2 : (R.boxes.getD s []).dropWhile (deadR N') = ((bx s).dropWhile (deadM c ms)).map (tickOf c m) := by rw [hb, dropWhile_map', hcong.2]
  refine ⟨hsp, h0.trans hr.clock, hr.cl, rfl, ?_, hN, hNok, ?_, ?_, hidle⟩
  · show R.tickets - 1 + ((R.boxes.getD s []).takeWhile (deadR N')).length = _
    rw [e1, hr.tickets]
    simp
    omega
  · show (R.boxes.set s _).length = _
    rw [List.length_set]; exact hr.bl
  · intro s' hs'
    show (R.boxes.set s (tick :: (R.boxes.getD s []).dropWhile (deadR N'))).getD s' [] = _
    by_cases e : s' = s
    · subst e
      rw [getD_set_eq _ _ _ _ (by rw [hr.bl]; exact hs), setB_same, e2, List.map_cons, htk]
      congr 1
      refine List.map_congr_left fun x hx => ?_
      exact (htick s' hs x ((List.dropWhile_sublist _).subset hx)).symm
    · rw [getD_set_ne' _ _ _ e, setB_other _ _ e, hr.box s' hs']
      refine List.map_congr_left fun x hx => ?_
      exact (htick s' hs' x hx).symm
theorem NodeOk.same {c : Cf} {m m' : Nat → Nat} {x : Nat} {n : NodeR} (h : NodeOk c m x n) (h0 : m' (c.nodesAt + 4 * x) = m (c.nodesAt + 4 * x)) (h1 : m' (c.nodesAt + 4 * x + 1) = m (c.nodesAt + 4 * x + 1)) (h2 : m' (c.nodesAt + 4 * x + 2) = m (c.nodesAt + 4 * x + 2)) : NodeOk c m' x n :=
  ⟨by rw [h0]; exact h.gen, by rw [h0]; exact h.status, fun q => by rw [h0]; exact h.time q, fun q => by rw [h2]; exact h.user q, by rw [h1]; exact h.hgen, by rw [h1]; exact h.hver, by rw [h1]; exact h.hshard⟩
theorem toU_nat {x : Int} (h0 : 0 ≤ x) (h1 : x < 18446744073709551616) : toU x = x.toNat := by unfold toU; omega
section
variable {ρ : Type} {R0 : ρ → Arg → St → St × Option (K (PR ρ))} {c : Cf} {k : PR ρ} {S : St} {fn ft : List Nat} {bx : Nat → List Nat} {R : ShopR}
/-- What code that is done alone comes to: so many steps; then the continuation is handed what is told; the cells hold another shop. -/
structure Alone (R0 : ρ → Arg → St → St × Option (K (PR ρ))) (c : Cf) (κ : K (PR ρ)) (k : PR ρ) (S : St) (a : Arg) (R' : ShopR) : Prop where
  ex : ∃ d q m' e fn' ft' bx', (∀ n, iter c (prApp c R0) (n + d) (some κ) S = iterR c (prApp c R0) n (prApp c R0 k a ((S.w q m').note e))) ∧ 1 ≤ d ∧ d ≤ 8 * c.tickets + 17 ∧ q ≤ d ∧ RelR c m' R' fn' ft' bx'
theorem RelR.clock' (hr : RelR c S.m R fn ft bx) : S.m 0 ≤ 1073741823 := by rw [hr.clock]; exact hr.cl
theorem RelR.nodeAt (hr : RelR c S.m R fn ft bx) {x : Nat} (hx : x < c.nodes) : NodeOk c S.m x (R.nodes.getD x default) := by
  have hl : x < R.nodes.length := by rw [hr.nl]; exact hx
  have e : R.nodes[x]? = some (R.nodes.getD x default) := by simp [hl]
  exact hr.node x _ e
theorem tw_le (h : Shop c S.m fn ft bx) {s : Nat} (hs : s < c.workers) (p : Nat → Bool) : ((bx s).takeWhile p).length ≤ c.tickets :=
  Nat.le_trans (List.takeWhile_sublist p).length_le (nodup_len c.tickets (bx s) (h.bnd s hs) (h.blt s hs))
theorem shard_not {s : Int} (hr : RelR c S.m R fn ft bx) : ¬ shardR R s ↔ (s < 0 ∨ (c.workers : Int) ≤ s) := by
  unfold shardR
  rw [hr.bl]
  omega
theorem start_rel {wk ticks shard user : Int} (hok : c.Ok) (hn : S.n = c.size) (hr : RelR c S.m R fn ft bx) (hu : user < 9223372036854775808) :
    Alone R0 c (startK c wk ticks shard user k) k S (.he (startR c.slack R ticks shard user).2.1 (startR c.slack R ticks shard user).2.2.1 (startR c.slack R ticks shard user).2.2.2) (startR c.slack R ticks shard user).1 := by
  have hx := hr.clock'
  have hsz := hok.size_le
  unfold startR
  by_cases h : ticks < 0 ∨ user < 0 ∨ ¬ shardR R shard
  · rw [if_pos h]
    have h' : ticks < 0 ∨ user < 0 ∨ shard < 0 ∨ (c.workers : Int) ≤ shard := by rw [shard_not hr] at h; exact h
    exact ⟨1, 0, S.m, startPoint wk 0 0 0 1, fn, ft, bx, fun n => start_arg h' n, Nat.le_refl _, by omega, by omega, hr⟩
  rw [if_neg h]
  have h' : ¬ (ticks < 0 ∨ user < 0 ∨ shard < 0 ∨ (c.workers : Int) ≤ shard) := by rw [shard_not hr] at h; exact h
  by_cases hf : 1073741823 - (R.clock : Int) < ticks
  · rw [if_pos hf]
    exact ⟨1, 1, S.m, startPoint wk 0 0 0 2, fn, ft, bx, fun n => start_range h' (by omega) hx (by rw [hr.clock]; exact hf) n, Nat.le_refl _, by omega, by omega, hr⟩
  rw [if_neg hf]
  have hf' : ¬ 1073741823 - (S.m 0 : Int) < ticks := by rw [hr.clock]; exact hf
  have hfree := hr.free
  cases fn with
  | nil =>
    rw [hfree]
    exact ⟨2, 2, S.m, startPoint wk 0 0 0 3, [], ft, bx, fun n => start_empty h' hn hok hx hf' hr.shop n, by omega, by omega, by omega, hr⟩
  | cons x fs =>
    rw [hfree]
    dsimp only
    have hxn : x < c.nodes := hr.shop.nlt x (List.mem_cons_self ..)
    have hno := hr.nodeAt hxn
    have n9 := hok.nodesAt_le
    have hl := nlk_lt hxn
    have hta : c.ticketsAt = c.nodesAt + 4 * c.nodes := rfl
    by_cases hg : (R.nodes.getD x default).gen = 4294967295
    · rw [if_pos hg]
      refine ⟨5, 5, _, startPoint wk 0 0 0 5, fs, ft, bx, fun n => start_gone h' hn hok hx hf' hr.shop (by rw [hno.gen]; exact hg) n, by omega, by omega, by omega, ?_⟩
      have e1 : ∀ j, j ≠ 1 → upd S.m 1 (turned (S.m 1) ((S.m (nlk c x) : Int) - 1)) j = S.m j := fun j hj => upd_other _ _ hj
      have hs1 := hr.shop.popNode hok
      generalize upd S.m 1 (turned (S.m 1) ((S.m (nlk c x) : Int) - 1)) = m1 at *
      refine ⟨hs1, (e1 0 (by omega)).trans hr.clock, hr.cl, rfl, hr.tickets, hr.nl, fun y n hy => ?_, hr.bl, fun s hs => ?_, fun y hy => ?_⟩
      · exact (hr.node y n hy).same (e1 _ (by omega)) (e1 _ (by omega)) (e1 _ (by omega))
      · rw [hr.box s hs]
        refine List.map_congr_left fun y hy => ?_
        unfold tickOf
        rw [e1 _ (by omega), e1 _ (by omega)]
      · rw [e1 _ (by omega)]; exact hr.idle y (List.mem_cons_of_mem _ hy)
    rw [if_neg hg]
    have htk := hr.tickets
    cases ft with
    | nil =>
      have htk0 : R.tickets = 0 := htk
      rw [if_pos htk0]
      obtain ⟨m', hi, hs', hm⟩ := start_full (R0 := R0) (wk := wk) (k := k) h' hn hok hx hf' hr.shop (by rw [hno.gen]; exact hg)
      refine ⟨9, 9, m', startPoint wk 0 0 0 3, x :: fs, [], bx, hi, by omega, by omega, by omega, ?_⟩
      have e1 : ∀ y j, j < 3 → m' (c.nodesAt + 4 * y + j) = S.m (c.nodesAt + 4 * y + j) := fun y j hj => hm _ (by omega) (by unfold nlk; omega)
      have e0 : ∀ y, m' (c.nodesAt + 4 * y) = S.m (c.nodesAt + 4 * y) := fun y => e1 y 0 (by omega)
      refine ⟨hs', (hm 0 (by omega) (by unfold nlk; omega)).trans hr.clock, hr.cl, hfree, hr.tickets, hr.nl, fun y n hy => ?_, hr.bl, fun s hs => ?_, fun y hy => ?_⟩
      · exact (hr.node y n hy).same (e0 y) (e1 y 1 (by omega)) (e1 y 2 (by omega))
      · rw [hr.box s hs]
        refine List.map_congr_left fun y hy => ?_
        have := hr.shop.blt s hs y hy
        unfold tickOf
        rw [hm _ (by omega) (by omega), hm _ (by omega) (by omega)]
      · rw [e0]; exact hr.idle y hy
    | cons t ft =>
      have htk0 : ¬ R.tickets = 0 := by rw [htk]; simp
      rw [if_neg htk0]
      have hsl : ∃ s : Nat, shard = (s : Int) ∧ s < c.workers := ⟨shard.toNat, by omega, by omega⟩
      obtain ⟨s, rfl, hsw⟩ := hsl
      obtain ⟨d, m', ms, hi, hd, hd1, hsp, hst, hms, hmst⟩ := start_ok (R0 := R0) (wk := wk) (k := k) rfl hsw h' hn hok hx hf' hr.shop hno.gen hg
      have htn : t < c.tickets := hr.shop.tlt t (List.mem_cons_self ..)
      have hib := inb_bd hsw
      have htl : ∀ y, y < c.tickets → c.ticketsAt ≤ tlk c y := fun y hy => (tlk_lt hy).2
      have hle := tw_le hr.shop hsw (deadM c ms)
      have hgl : (R.nodes.getD x default).gen < 4294967296 := by rw [← hno.gen]; exact Nat.mod_lt _ (by decide)
      have hdl : (S.m 0 : Int) + ticks = ((R.clock + ticks.toNat : Nat) : Int) := by rw [hr.clock]; omega
      have hgq : ((R.nodes.getD x default).gen : Int) + 1 = (((R.nodes.getD x default).gen + 1 : Nat) : Int) := by omega
      rw [hdl, hgq] at hi
      rw [hdl, hgq] at hst hmst
      have hcl := hr.cl
      have hsp3 := state_parts3 ((R.nodes.getD x default).gen + 1) (R.clock + ticks.toNat) 1 (by omega) (by omega) (by omega)
      have hkp3 := key_parts3 ((R.nodes.getD x default).gen + 1) 0 x (by omega) (by omega) (by have := hok.n2; omega)
      have rest : ∀ y j, y < c.nodes → j < 3 → (y = x → j = 1) → m' (c.nodesAt + 4 * y + j) = S.m (c.nodesAt + 4 * y + j) := fun y j hy hj hne =>
        hst.rest _ (by omega) (by omega) (by omega) (by omega) (by omega) (by unfold Cf.ticketsAt; omega) (by unfold Cf.ticketsAt; omega) fun z hz => by have := htl z hz; unfold Cf.ticketsAt at this; omega
      have rest0 : ∀ y, y < c.nodes → y ≠ x → m' (c.nodesAt + 4 * y) = S.m (c.nodesAt + 4 * y) := fun y hy hne => rest y 0 hy (by omega) fun e => absurd e hne
      refine ⟨d, d, m', startPoint wk x (((R.nodes.getD x default).gen + 1 : Nat) : Int) ((R.clock + ticks.toNat : Nat) : Int) 0, fs, _, _, ?_, hd1, by omega, Nat.le_refl _, lay_rel hr hsw hsp ?_ ?_ ?_ ?_ ?_ ?_ ?_⟩
      · exact hi
      · intro y hy hne
        refine ⟨hst.rest _ (by omega) (by omega) (by omega) (by omega) (by omega) (by omega) (by omega) (fun z hz => by unfold tlk; omega), hst.rest _ (by omega) (by omega) (by omega) (by omega) (by omega) (by omega) (by omega) (fun z hz => by unfold tlk; omega), hms _ (by omega) (by omega) (by omega) (by omega) (by omega) (by omega)⟩
      · intro y hy
        by_cases e : y = x
        · subst e; rw [hmst, hst.state]
        · rw [rest0 y hy e]
          exact hms _ (by omega) (by omega) (by omega) (by omega) (by unfold Cf.ticketsAt; omega) (by unfold Cf.ticketsAt; omega)
      · exact hst.rest 0 (by omega) (by omega) (by omega) (by omega) (by omega) (by omega) (by omega) fun z hz => by have := htl z hz; omega
      · rw [List.length_set]; exact hr.nl
      · intro y n hy
        have hyn : y < c.nodes := by
          have := (List.getElem?_eq_some_iff.1 hy).1
          rw [List.length_set, hr.nl] at this
          exact this
        by_cases e : y = x
        · subst e
          have hl' : y < R.nodes.length := by rw [hr.nl]; exact hyn
          rw [List.getElem?_set_self hl'] at hy
          obtain rfl := Option.some.inj hy
          refine ⟨?_, ?_, fun _ => ?_, fun _ => ?_, ?_, ?_, ?_⟩
          · rw [hst.state]; exact hsp3.1
          · rw [hst.state]; exact hsp3.2.2
          · rw [hst.state]; exact hsp3.2.1
          · rw [hst.user]; exact toU_nat (by omega) (by omega)
          · rw [rest y 1 hyn (by omega) fun _ => rfl]; exact hno.hgen
          · rw [rest y 1 hyn (by omega) fun _ => rfl]; exact hno.hver
          · rw [rest y 1 hyn (by omega) fun _ => rfl]; exact hno.hshard
        · rw [List.getElem?_set_ne (Ne.symm e)] at hy
          exact (hr.node y n hy).same (rest0 y hyn e) (rest y 1 hyn (by omega) fun _ => rfl) (rest y 2 hyn (by omega) fun q => absurd q e)
      · unfold tickOf
        rw [hst.key, hst.time]
        have k1 := hkp3.1
        have k2 := hkp3.2.1
        have k3 := hkp3.2.2
        rw [show ((0 : Nat) : Int) = 0 from rfl] at k1 k2 k3
        rw [k1, k2, k3]
        rfl
      · intro y hy
        have hyx : y ≠ x := fun e => (List.nodup_cons.1 hr.shop.nnd).1 (e ▸ hy)
        rw [rest0 y (hr.shop.nlt y (List.mem_cons_of_mem _ hy)) hyx]
        exact hr.idle y (List.mem_cons_of_mem _ hy)
theorem RelR.armed (hr : RelR c S.m R fn ft bx) {n g : Int} (hn : nodeR R n) : ∃ x : Nat, n = (x : Int) ∧ x < c.nodes ∧ armedR R n g = armedW (S.m (c.nodesAt + 4 * x)) g ∧ NodeOk c S.m x (R.nodes.getD x default) := by
  obtain ⟨h0, h1⟩ := hn
  have hl := hr.nl
  obtain ⟨x, rfl⟩ : ∃ x : Nat, n = (x : Int) := ⟨n.toNat, by omega⟩
  have hx : x < c.nodes := by omega
  have hno := hr.nodeAt hx
  refine ⟨x, rfl, hx, ?_, hno⟩
  unfold armedR armedW
  rw [hno.gen, hno.status, Int.toNat_natCast]
  exact decide_eq_decide.2 ⟨fun h => h.2, fun h => ⟨⟨h0, h1⟩, h⟩⟩
theorem state_none (c : Cf) (n : Int) (h : ¬ (0 ≤ n ∧ n < (c.nodes : Int))) : c.state n = -1 := by
  unfold Cf.state Cf.node
  rw [among_no h]
  unfold within
  rw [if_pos (by omega)]
theorem RelR.noNode (hr : RelR c S.m R fn ft bx) {n g : Int} (hn : ¬ nodeR R n) : c.state n < 0 ∧ armedR R n g = false := by
  refine ⟨?_, decide_eq_false fun h => hn h.1⟩
  unfold nodeR at hn
  rw [hr.nl] at hn
  rw [state_none c n hn]; decide
theorem cancel_rel {w n g : Int} (hok : c.Ok) (hn : S.n = c.size) (hr : RelR c S.m R fn ft bx) : Alone R0 c (cancelK c w n g k) k S (.b (cancelR R n g).2) (cancelR R n g).1 := by
  unfold cancelR
  by_cases hnd : nodeR R n
  · obtain ⟨x, rfl, hx, ha, hno⟩ := hr.armed (g := g) hnd
    have n9 := hok.nodesAt_le
    have hl := nlk_lt hx
    have hta : c.ticketsAt = c.nodesAt + 4 * c.nodes := rfl
    cases hw : armedW (S.m (c.nodesAt + 4 * x)) g with
    | false =>
      rw [ha, hw, if_neg (by decide)]
      exact ⟨1, 1, S.m, cancelPoint w x g false, fn, ft, bx, fun i => cancel_no hx hn hw i, Nat.le_refl _, by omega, by omega, hr⟩
    | true =>
      rw [ha, hw, if_pos rfl]
      have haw := armedW_eq hw
      have hxf : x ∉ fn := fun q => hr.idle x q haw.1
      obtain ⟨m', hi, hsp, hst, hre⟩ := cancel_yes (R0 := R0) (k := k) (w := w) hok hx hn hw hr.shop hxf
      have hgl : part (S.m (c.nodesAt + 4 * x)) 32 32 < 4294967296 := Nat.mod_lt _ (by decide)
      have htl : part (S.m (c.nodesAt + 4 * x)) 2 30 < 1073741824 := Nat.mod_lt _ (by decide)
      have hsp3 := state_parts3 _ _ 3 hgl htl (by decide)
      rw [show ((3 : Nat) : Int) = 3 from rfl, ← hst] at hsp3
      have e0 : ∀ y, y ≠ x → m' (c.nodesAt + 4 * y) = S.m (c.nodesAt + 4 * y) := fun y hy => hre _ (by omega) (by unfold nlk; omega) (by omega)
      have e1 : ∀ y, m' (c.nodesAt + 4 * y + 1) = S.m (c.nodesAt + 4 * y + 1) := fun y => hre _ (by omega) (by unfold nlk; omega) (by omega)
      have e2 : ∀ y, m' (c.nodesAt + 4 * y + 2) = S.m (c.nodesAt + 4 * y + 2) := fun y => hre _ (by omega) (by unfold nlk; omega) (by omega)
      refine ⟨5, 5, m', cancelPoint w x g true, x :: fn, ft, bx, hi, by omega, by omega, by omega, ⟨hsp, (hre 0 (by omega) (by unfold nlk; omega) (by omega)).trans hr.clock, hr.cl, ?_, hr.tickets, ?_, ?_, hr.bl, ?_, ?_⟩⟩
      · show _ :: R.free = _
        rw [hr.free]
        rfl
      · show (R.nodes.set _ _).length = _
        rw [List.length_set]; exact hr.nl
      · intro y n hy
        have hy : (R.nodes.set x { R.nodes.getD x default with status := 3 })[y]? = some n := hy
        by_cases e : y = x
        · subst e
          have hl' : y < R.nodes.length := by rw [hr.nl]; exact hx
          rw [List.getElem?_set_self hl'] at hy
          obtain rfl := Option.some.inj hy
          exact ⟨hsp3.1.trans hno.gen, hsp3.2.2, fun q => absurd (show (3 : Nat) = 1 from q) (by decide), fun q => absurd (show (3 : Nat) = 1 from q) (by decide), by rw [e1]; exact hno.hgen, by rw [e1]; exact hno.hver, by rw [e1]; exact hno.hshard⟩
        · rw [List.getElem?_set_ne (Ne.symm e)] at hy
          exact (hr.node y n hy).same (e0 y e) (e1 y) (e2 y)
      · intro s hs
        rw [show (({ R with nodes := R.nodes.set (Int.toNat (x : Int)) { R.nodes.getD (Int.toNat (x : Int)) default with status := 3 }, free := Int.toNat (x : Int) :: R.free } : ShopR), true).1.boxes = R.boxes from rfl, hr.box s hs]
        refine List.map_congr_left fun y hy => ?_
        have := hr.shop.blt s hs y hy
        unfold tickOf
        rw [hre _ (by omega) (by omega) (by omega), hre _ (by omega) (by omega) (by omega)]
      · intro y hy
        by_cases e : y = x
        · subst e; rw [hsp3.2.2]; decide
        · rw [e0 y e]
          exact hr.idle y (by rcases List.mem_cons.1 hy with q | q; exact absurd q e; exact q)
  · obtain ⟨h1, h2⟩ := hr.noNode (g := g) hnd
    rw [h2, if_neg (by decide)]
    exact ⟨1, 0, S.m, cancelPoint w n g false, fn, ft, bx, fun i => cancel_stale h1 i, Nat.le_refl _, by omega, by omega, hr⟩
/-- A ticket that was laid for a node of which one cell was turned. -/
theorem turned_rel {m' ms : Nat → Nat} {t x s j cw kw tm : Nat} {N' : List NodeR} {tick : TickR} (hok : c.Ok) (hr : RelR c S.m R fn (t :: ft) bx) (hs : s < c.workers) (hx : x < c.nodes) (hj : j < 2)
    (hsp : Shop c m' fn (((bx s).takeWhile (deadM c ms)).reverse ++ ft) (setB bx s (t :: (bx s).dropWhile (deadM c ms)))) (hst : Turned c S.m m' x t s j cw kw tm)
    (hms : ∀ i, i ≠ 2 → (j = 0 → i ≠ c.nodesAt + 4 * x) → i ≠ c.ticketsAt + 3 * t → i ≠ c.ticketsAt + 3 * t + 1 → ms i = S.m i) (hmst : j = 0 → ms (c.nodesAt + 4 * x) = cw) (n' : NodeR) (hN' : N' = R.nodes.set x n')
    (hn' : NodeOk c m' x n') (htk : tickOf c m' t = tick) (hxf : x ∉ fn) :
    RelR c m' (layR { R with tickets := R.tickets - 1, nodes := N' } s tick) fn (((bx s).takeWhile (deadM c ms)).reverse ++ ft) (setB bx s (t :: (bx s).dropWhile (deadM c ms))) := by
  have n9 := hok.nodesAt_le
  have hl := nlk_lt hx
  have hta : c.ticketsAt = c.nodesAt + 4 * c.nodes := rfl
  have htn : t < c.tickets := hr.shop.tlt t (List.mem_cons_self ..)
  have hib := inb_bd hs
  have htl : ∀ y, y < c.tickets → c.ticketsAt ≤ tlk c y := fun y hy => (tlk_lt hy).2
  have rest : ∀ y i, y < c.nodes → i < 3 → ¬ (y = x ∧ i = j) → m' (c.nodesAt + 4 * y + i) = S.m (c.nodesAt + 4 * y + i) := fun y i hy hi hne =>
    hst.rest _ (by omega) (by omega) (fun e => hne ⟨by omega, by omega⟩) (by unfold Cf.ticketsAt; omega) (by unfold Cf.ticketsAt; omega) fun z hz => by have := htl z hz; unfold Cf.ticketsAt at this; omega
  have e : { R with tickets := R.tickets - 1, nodes := N' } = ({ R with free := fn, tickets := R.tickets - 1, nodes := N' } : ShopR) := by rw [← hr.free]
  rw [e]
  refine lay_rel hr hs hsp ?_ ?_ ?_ ?_ ?_ htk ?_
  · intro y hy hne
    exact ⟨hst.rest _ (by omega) (by omega) (by omega) (by omega) (by omega) (fun z hz => by unfold tlk; omega), hst.rest _ (by omega) (by omega) (by omega) (by omega) (by omega) (fun z hz => by unfold tlk; omega), hms _ (by omega) (by omega) (by omega) (by omega)⟩
  · intro y hy
    by_cases q : y = x ∧ j = 0
    · obtain ⟨rfl, rfl⟩ := q
      rw [hmst rfl]; exact hst.cell.symm
    · have r0 := rest y 0 hy (by omega) (by omega)
      rw [Nat.add_zero] at r0
      rw [r0]
      exact hms _ (by omega) (by omega) (by unfold Cf.ticketsAt; omega) (by unfold Cf.ticketsAt; omega)
  · exact hst.rest 0 (by omega) (by omega) (by omega) (by omega) (by omega) fun z hz => by have := htl z hz; omega
  · rw [hN', List.length_set]; exact hr.nl
  · intro y n hy
    rw [hN'] at hy
    have hyn : y < c.nodes := by
      have := (List.getElem?_eq_some_iff.1 hy).1
      rw [List.length_set, hr.nl] at this
      exact this
    by_cases q : y = x
    · subst q
      have hl' : y < R.nodes.length := by rw [hr.nl]; exact hyn
      rw [List.getElem?_set_self hl'] at hy
      obtain rfl := Option.some.inj hy
      exact hn'
    · rw [List.getElem?_set_ne (Ne.symm q)] at hy
      have r0 := rest y 0 hyn (by omega) (by omega)
      rw [Nat.add_zero] at r0
      exact (hr.node y n hy).same r0 (rest y 1 hyn (by omega) (by omega)) (rest y 2 hyn (by omega) (by omega))
  · intro y hy
    have hyx : y ≠ x := fun q => hxf (q ▸ hy)
    have r0 := rest y 0 (hr.shop.nlt y hy) (by omega) (by omega)
    rw [Nat.add_zero] at r0
    rw [r0]
    exact hr.idle y hy
theorem rearm_rel {s : Nat} {w n g ticks : Int} (hok : c.Ok) (hsw : w = (s : Int)) (hsl : s < c.workers) (hn : S.n = c.size) (hr : RelR c S.m R fn ft bx) :
    Alone R0 c (rearmK c w n g ticks k) k S (.he (rearmR c.slack R s n g ticks).2.1 (rearmR c.slack R s n g ticks).2.2.1 (rearmR c.slack R s n g ticks).2.2.2) (rearmR c.slack R s n g ticks).1 := by
  have hc := hr.clock'
  have hsz := hok.size_le
  unfold rearmR
  by_cases h : ticks < 0
  · rw [if_pos h]
    exact ⟨1, 0, S.m, rearmPoint w n g 0 0 0 1, fn, ft, bx, fun i => rearm_arg h i, Nat.le_refl _, by omega, by omega, hr⟩
  rw [if_neg h]
  by_cases hnd : nodeR R n
  · rw [if_neg (fun q => q hnd)]
    obtain ⟨x, rfl, hx, ha, hno⟩ := hr.armed (g := g) hnd
    by_cases hf : 1073741823 - (R.clock : Int) < ticks
    · rw [if_pos hf]
      exact ⟨1, 1, S.m, rearmPoint w x g 0 0 0 2, fn, ft, bx, fun i => rearm_range h hx (by omega) hc (by rw [hr.clock]; exact hf) i, Nat.le_refl _, by omega, by omega, hr⟩
    rw [if_neg hf]
    have hf' : ¬ 1073741823 - (S.m 0 : Int) < ticks := by rw [hr.clock]; exact hf
    cases hw : armedW (S.m (c.nodesAt + 4 * x)) g with
    | false =>
      rw [ha, hw, if_pos rfl]
      exact ⟨2, 2, S.m, rearmPoint w x g 0 0 0 4, fn, ft, bx, fun i => rearm_no h hx hok hn hc hf' hw i, by omega, by omega, by omega, hr⟩
    | true =>
      rw [ha, hw, if_neg (by decide)]
      have haw := armedW_eq hw
      by_cases hg : g = 4294967295
      · rw [if_pos hg]
        exact ⟨2, 2, S.m, rearmPoint w x g 0 0 0 5, fn, ft, bx, fun i => rearm_gone h hx hok hn hc hf' hw hg i, by omega, by omega, by omega, hr⟩
      rw [if_neg hg]
      have htk := hr.tickets
      cases ft with
      | nil =>
        have htk0 : R.tickets = 0 := htk
        rw [if_pos htk0]
        exact ⟨3, 3, S.m, rearmPoint w x g 0 0 0 3, fn, [], bx, fun i => rearm_full h hx hok hn hc hf' hw hg hr.shop i, by omega, by omega, by omega, hr⟩
      | cons t ft =>
        have htk0 : ¬ R.tickets = 0 := by rw [htk]; simp
        rw [if_neg htk0]
        obtain ⟨d, m', ms, hi, hd, hd1, hsp, hst, hms, hmst⟩ := rearm_ok (R0 := R0) (k := k) hsw hsl h hx hok hn hc hf' hw hg hr.shop
        have hle := tw_le hr.shop hsl (deadM c ms)
        have hgl : part (S.m (c.nodesAt + 4 * x)) 32 32 < 4294967296 := Nat.mod_lt _ (by decide)
        have hgn : g = ((R.nodes.getD x default).gen : Int) := by rw [← haw.2, hno.gen]
        have hdl : (S.m 0 : Int) + ticks = ((R.clock + ticks.toNat : Nat) : Int) := by rw [hr.clock]; omega
        rw [hno.gen] at hgl
        have hgq : g + 1 = (((R.nodes.getD x default).gen + 1 : Nat) : Int) := by rw [hgn]; omega
        rw [hdl, hgq] at hi hst hmst
        have hcl := hr.cl
        have hsp3 := state_parts3 ((R.nodes.getD x default).gen + 1) (R.clock + ticks.toNat) 1 (by omega) (by omega) (by omega)
        have hkp3 := key_parts3 ((R.nodes.getD x default).gen + 1) 0 x (by omega) (by omega) (by have := hok.n2; omega)
        have hcell := hst.cell
        rw [Nat.add_zero] at hcell
        have n9 := hok.nodesAt_le
        have hl := nlk_lt hx
        have hta : c.ticketsAt = c.nodesAt + 4 * c.nodes := rfl
        have hib := inb_bd hsl
        have htl : ∀ y, y < c.tickets → c.ticketsAt ≤ tlk c y := fun y hy => (tlk_lt hy).2
        have r1 : ∀ i, i = 1 ∨ i = 2 → m' (c.nodesAt + 4 * x + i) = S.m (c.nodesAt + 4 * x + i) := fun i hi =>
          hst.rest _ (by omega) (by omega) (by omega) (by unfold Cf.ticketsAt; omega) (by unfold Cf.ticketsAt; omega) fun z hz => by have := htl z hz; unfold Cf.ticketsAt at this; omega
        have hs1 : (R.nodes.getD x default).status = 1 := by rw [← hno.status]; exact haw.1
        refine ⟨d, d, m', rearmPoint w x g x (((R.nodes.getD x default).gen + 1 : Nat) : Int) ((R.clock + ticks.toNat : Nat) : Int) 0, fn, _, _, ?_, hd1, by omega, Nat.le_refl _, turned_rel hok hr hsl hx (by decide) hsp hst (fun i a b d e => hms i a (b rfl) d e) (fun _ => hmst) _ rfl ?_ ?_ (fun q => hr.idle x q haw.1)⟩
        · exact hi
        · refine ⟨?_, ?_, fun _ => ?_, fun _ => ?_, ?_, ?_, ?_⟩
          · rw [hcell]; exact hsp3.1
          · rw [hcell]; exact hsp3.2.2.trans hs1.symm
          · rw [hcell]; exact hsp3.2.1
          · rw [r1 2 (.inr rfl)]; exact hno.user hs1
          · rw [r1 1 (.inl rfl)]; exact hno.hgen
          · rw [r1 1 (.inl rfl)]; exact hno.hver
          · rw [r1 1 (.inl rfl)]; exact hno.hshard
        · unfold tickOf
          rw [hst.key, hst.time]
          have k1 := hkp3.1
          have k2 := hkp3.2.1
          have k3 := hkp3.2.2
          rw [show ((0 : Nat) : Int) = 0 from rfl] at k1 k2 k3
          rw [k1, k2, k3]
          rfl
  · rw [if_pos hnd]
    exact ⟨1, 0, S.m, rearmPoint w n g 0 0 0 4, fn, ft, bx, fun i => rearm_stale h (hr.noNode (g := g) hnd).1 i, Nat.le_refl _, by omega, by omega, hr⟩
end
end Go.Proofs.YtgemjjpmoejgdaaGreat
