/- A Cancel, a Rearm, a Migrate that is done alone. -/
import Derived.Test.YtgemjjpmoejgdaaGreatHsi
namespace Go.Proofs.YtgemjjpmoejgdaaGreat
open Go.RowKit
set_option maxRecDepth 100000
set_option linter.unusedVariables false

/-- A ticket's key and time are written. -/
def wrM (c : Cf) (m : Nat → Nat) (t kw tm : Nat) : Nat → Nat := upd (upd m (c.ticketsAt + 3 * t) kw) (c.ticketsAt + 3 * t + 1) tm
theorem wrM_key {c : Cf} {m : Nat → Nat} {t kw tm : Nat} : wrM c m t kw tm (c.ticketsAt + 3 * t) = kw := by unfold wrM; rw [upd_other _ _ (by omega)]; exact upd_same _ _ _
theorem wrM_time {c : Cf} {m : Nat → Nat} {t kw tm : Nat} : wrM c m t kw tm (c.ticketsAt + 3 * t + 1) = tm := upd_same _ _ _
theorem wrM_rest {c : Cf} {m : Nat → Nat} {t kw tm : Nat} (j : Nat) (a : j ≠ c.ticketsAt + 3 * t) (b : j ≠ c.ticketsAt + 3 * t + 1) : wrM c m t kw tm j = m j := by unfold wrM; rw [upd_other _ _ b, upd_other _ _ a]
theorem Shop.write {c : Cf} {m : Nat → Nat} {fn ft : List Nat} {bx : Nat → List Nat} {t kw tm : Nat} (hok : c.Ok) (h : Shop c m fn ft bx) (ht : ∀ s, s < c.workers → t ∉ bx s) : Shop c (wrM c m t kw tm) fn ft bx := by
  have n9 := hok.nodesAt_le
  have hnt := nodes_tickets c
  refine h.same ?_ ?_ ?_ ?_ n9.1
  · intro j _ hj
    exact wrM_rest j (by omega) (by omega)
  · intro y hy
    have := nlk_lt hy
    exact wrM_rest _ (by omega) (by omega)
  · intro y hy
    exact wrM_rest _ (by unfold tlk; omega) (by unfold tlk; omega)
  · intro s' hs' y hy
    have hne : y ≠ t := fun e => ht s' hs' (e ▸ hy)
    exact wrM_rest _ (by omega) (by omega)
/-- A node's cell that is no link is turned. -/
theorem Shop.node {c : Cf} {m : Nat → Nat} {fn ft : List Nat} {bx : Nat → List Nat} {x j v : Nat} (hok : c.Ok) (h : Shop c m fn ft bx) (hx : x < c.nodes) (hj : j < 3) : Shop c (upd m (c.nodesAt + 4 * x + j) v) fn ft bx := by
  have n9 := hok.nodesAt_le
  have hnt : c.ticketsAt = c.nodesAt + 4 * c.nodes := rfl
  refine h.same ?_ ?_ ?_ ?_ n9.1
  · intro i _ hi
    exact upd_other _ _ (by omega)
  · intro y hy
    exact upd_other _ _ (by unfold nlk; omega)
  · intro y hy
    exact upd_other _ _ (by unfold tlk; omega)
  · intro s' hs' y hy
    exact upd_other _ _ (by omega)

section
variable {ρ : Type} {R0 : ρ → Arg → St → St × Option (K (PR ρ))} {c : Cf} {k : PR ρ} {S : St} {fn ft : List Nat} {bx : Nat → List Nat}
theorem mg0_u (w n g er : Int) (T : St) : prApp c R0 (.mg0 w n g er k) .u T = prApp c R0 k (.e er) (T.note (migratePoint w n g er)) := by rw [prApp]
theorem mg1_yes' (w n g s : Int) (x : Nat) (T : St) (h : armedW x g = true) : prApp c R0 (.mg1 w n g s k) (.w x) T = (T, some (.load (c.home n) (.ret (.mg2 w n g s k)))) := by rw [prApp, if_pos h]
theorem mg1_no' (w n g s : Int) (x : Nat) (T : St) (h : armedW x g = false) : prApp c R0 (.mg1 w n g s k) (.w x) T = prApp c R0 k (.e 4) (T.note (migratePoint w n g 4)) := by rw [prApp, if_neg (by rw [h]; decide)]
theorem mg2_gone (w n g s : Int) (x : Nat) (T : St) (h : homeV x g = 65535) : prApp c R0 (.mg2 w n g s k) (.w x) T = prApp c R0 k (.e 5) (T.note (migratePoint w n g 5)) := by rw [prApp, if_pos h]
theorem mg2_yes' (w n g s : Int) (x : Nat) (T : St) (h : ¬ homeV x g = 65535) : prApp c R0 (.mg2 w n g s k) (.w x) T = (T, some (popK .tickets (.ret (.mg3 w n g s x (homeV x g + 1) k)))) := by rw [prApp, if_neg h]
theorem mg3_yes' (w n g s v t : Int) (x : Nat) (T : St) : prApp c R0 (.mg3 w n g s x v k) (.pop t true) T = (T, some (.load (c.state n) (.ret (.mg4 w n g s x v t k)))) := by rw [prApp, if_pos rfl]
theorem mg3_no' (w n g s v t : Int) (x : Nat) (T : St) : prApp c R0 (.mg3 w n g s x v k) (.pop t false) T = prApp c R0 k (.e 3) (T.note (migratePoint w n g 3)) := by rw [prApp, if_neg (by decide)]
theorem mg4_yes' (w n g s v t : Int) (x y : Nat) (T : St) (h : armedW y g = true) : prApp c R0 (.mg4 w n g s x v t k) (.w y) T = (T.note (migratePoint w n g 0), some (writeK c t g v n (part y 2 30 : Nat) (.ret (.mg6 n g s x v t k)))) := by rw [prApp, if_pos h]
theorem mg6_u (n g s v t : Int) (x : Nat) (T : St) : prApp c R0 (.mg6 n g s x v t k) .u T = (T, some (putK c s t (.mg7 n g s x v k))) := by rw [prApp]
theorem mg7_u (n g s v : Int) (x : Nat) (T : St) : prApp c R0 (.mg7 n g s x v k) .u T = (T, some (.cas (c.home n) x (homeWord g v s) (.ret (.mg8 k)))) := by rw [prApp]
theorem mg8_b (b : Bool) (T : St) : prApp c R0 (.mg8 k) (.b b) T = prApp c R0 k (.e 0) T := by rw [prApp]

theorem state_nat {x : Nat} (hx : x < c.nodes) : ¬ c.state (x : Int) < 0 := by rw [state_at c x hx]; omega
/-- What a Rearm or a Migrate that succeeds leaves: of the node's cells only that at j. -/
structure Turned (c : Cf) (m m' : Nat → Nat) (x t s j : Nat) (cw kw tm : Nat) : Prop where
  cell : m' (c.nodesAt + 4 * x + j) = cw
  key : m' (c.ticketsAt + 3 * t) = kw
  time : m' (c.ticketsAt + 3 * t + 1) = tm
  rest : ∀ i, i ≠ 2 → i ≠ inb c s → i ≠ c.nodesAt + 4 * x + j → i ≠ c.ticketsAt + 3 * t → i ≠ c.ticketsAt + 3 * t + 1 → (∀ y, y < c.tickets → i ≠ tlk c y) → m' i = m i
theorem armedW_eq {x : Nat} {g : Int} (h : armedW x g = true) : part x 0 2 = 1 ∧ ((part x 32 32 : Nat) : Int) = g := of_decide_eq_true h
theorem home_at (x : Nat) (hx : x < c.nodes) : c.home (x : Int) = ((c.nodesAt + 4 * x + 1 : Nat) : Int) := node_at c x hx 1
theorem migrate_arg {w n g s : Int} (h : s < 0 ∨ (c.workers : Int) ≤ s) (i : Nat) : iter c (prApp c R0) (i + 1) (some (migrateK c w n g s k)) S = iterR c (prApp c R0) i (prApp c R0 k (.e 1) (S.note (migratePoint w n g 1))) := by
  unfold migrateK
  rw [if_pos h, it_idle, app_ret, mg0_u]
theorem migrate_stale {w n g s : Int} (h : ¬ (s < 0 ∨ (c.workers : Int) ≤ s)) (h2 : c.state n < 0) (i : Nat) : iter c (prApp c R0) (i + 1) (some (migrateK c w n g s k)) S = iterR c (prApp c R0) i (prApp c R0 k (.e 4) (S.note (migratePoint w n g 4))) := by
  unfold migrateK
  rw [if_neg h, if_pos h2, it_idle, app_ret, mg0_u]
theorem migrate_load {w g s : Int} {x : Nat} (h : ¬ (s < 0 ∨ (c.workers : Int) ≤ s)) (hx : x < c.nodes) (hn : S.n = c.size) (i : Nat) : iter c (prApp c R0) (i + 1) (some (migrateK c w x g s k)) S = iterR c (prApp c R0) i (prApp c R0 (.mg1 w x g s k) (.w (S.m (c.nodesAt + 4 * x))) (S.w 1 S.m)) := by
  have hl := nlk_lt hx
  have hts : c.ticketsAt ≤ c.size := by unfold Cf.size Cf.connsAt; omega
  unfold migrateK
  rw [if_neg h, if_neg (state_nat hx), state_at c x hx, it_load (by unfold nlk at hl; omega), app_ret]
theorem migrate_no {w g s : Int} {x : Nat} (h : ¬ (s < 0 ∨ (c.workers : Int) ≤ s)) (hx : x < c.nodes) (hn : S.n = c.size) (ha : armedW (S.m (c.nodesAt + 4 * x)) g = false) (i : Nat) :
    iter c (prApp c R0) (i + 1) (some (migrateK c w x g s k)) S = iterR c (prApp c R0) i (prApp c R0 k (.e 4) ((S.w 1 S.m).note (migratePoint w x g 4))) := by
  rw [migrate_load h hx hn, mg1_no' _ _ _ _ _ _ ha]
theorem migrate_home {w g s : Int} {x : Nat} (h : ¬ (s < 0 ∨ (c.workers : Int) ≤ s)) (hx : x < c.nodes) (hn : S.n = c.size) (ha : armedW (S.m (c.nodesAt + 4 * x)) g = true) (i : Nat) :
    iter c (prApp c R0) (i + 2) (some (migrateK c w x g s k)) S = iterR c (prApp c R0) i (prApp c R0 (.mg2 w x g s k) (.w (S.m (c.nodesAt + 4 * x + 1))) (S.w 2 S.m)) := by
  have hl := nlk_lt hx
  have hts : c.ticketsAt ≤ c.size := by unfold Cf.size Cf.connsAt; omega
  rw [show i + 2 = (i + 1) + 1 from rfl, migrate_load h hx hn, mg1_yes' _ _ _ _ _ _ ha, iterR_some, home_at x hx, it_load (by show _ < S.n; unfold nlk at hl; omega), app_ret]
  simp only [St.w_w, St.w_m]
theorem migrate_gone {w g s : Int} {x : Nat} (h : ¬ (s < 0 ∨ (c.workers : Int) ≤ s)) (hx : x < c.nodes) (hn : S.n = c.size) (ha : armedW (S.m (c.nodesAt + 4 * x)) g = true) (hv : homeV (S.m (c.nodesAt + 4 * x + 1)) g = 65535) (i : Nat) :
    iter c (prApp c R0) (i + 2) (some (migrateK c w x g s k)) S = iterR c (prApp c R0) i (prApp c R0 k (.e 5) ((S.w 2 S.m).note (migratePoint w x g 5))) := by
  rw [migrate_home h hx hn ha, mg2_gone _ _ _ _ _ _ hv]
theorem migrate_full {w g s : Int} {x : Nat} (h : ¬ (s < 0 ∨ (c.workers : Int) ≤ s)) (hx : x < c.nodes) (hok : c.Ok) (hn : S.n = c.size) (ha : armedW (S.m (c.nodesAt + 4 * x)) g = true) (hv : ¬ homeV (S.m (c.nodesAt + 4 * x + 1)) g = 65535) (hs : Shop c S.m fn [] bx) (i : Nat) :
    iter c (prApp c R0) (i + 3) (some (migrateK c w x g s k)) S = iterR c (prApp c R0) i (prApp c R0 k (.e 3) ((S.w 3 S.m).note (migratePoint w x g 3))) := by
  have hsz := hok.size_le
  rw [show i + 3 = (i + 1) + 2 from rfl, migrate_home h hx hn ha, mg2_yes' _ _ _ _ _ _ hv, iterR_some, it_pop_none (st := .tickets) (S := S.w 2 S.m) (by show 2 < S.n; omega) hs.tickets, app_ret, mg3_no', St.w_w, St.w_m]
theorem homeV_bd (x : Nat) (g : Int) : 0 ≤ homeV x g ∧ homeV x g ≤ 65535 := by
  have h : part x 16 16 < 65536 := Nat.mod_lt _ (by decide)
  unfold homeV
  split <;> omega
theorem migrate_ok {s : Nat} {w g : Int} {x t : Nat} (hsl : s < c.workers) (hx : x < c.nodes) (hok : c.Ok) (hn : S.n = c.size) (ha : armedW (S.m (c.nodesAt + 4 * x)) g = true) {v : Nat} (hv : homeV (S.m (c.nodesAt + 4 * x + 1)) g = (v : Int)) (hvl : v < 65535)
    (hs : Shop c S.m fn (t :: ft) bx) : ∃ d m' ms, (∀ i, iter c (prApp c R0) (i + d) (some (migrateK c w x g s k)) S = iterR c (prApp c R0) i (prApp c R0 k (.e 0) ((S.w d m').note (migratePoint w x g 0)))) ∧
      d ≤ 8 * ((bx s).takeWhile (deadM c ms)).length + 14 ∧ 1 ≤ d ∧ Shop c m' fn (((bx s).takeWhile (deadM c ms)).reverse ++ ft) (setB bx s (t :: (bx s).dropWhile (deadM c ms))) ∧
      Turned c S.m m' x t s 1 (homeWord g ((v : Int) + 1) s) (keyWord g ((v : Int) + 1) x) (toU (upI (part (S.m (c.nodesAt + 4 * x)) 2 30 : Nat) c.slack)) ∧
      (∀ j, j ≠ 2 → j ≠ c.ticketsAt + 3 * t → j ≠ c.ticketsAt + 3 * t + 1 → ms j = S.m j) := by
  have hsz := hok.size_le
  have htn : t < c.tickets := hs.tlt t (List.mem_cons_self ..)
  have n9 := hok.nodesAt_le
  have n2 := hok.n2
  have t2 := hok.t2
  have hl := nlk_lt hx
  have htl := tlk_lt htn
  have hts : c.ticketsAt ≤ c.size := by unfold Cf.size Cf.connsAt; omega
  have hnt : c.ticketsAt = c.nodesAt + 4 * c.nodes := rfl
  have hw : ¬ ((s : Int) < 0 ∨ (c.workers : Int) ≤ (s : Int)) := by omega
  have hgq := armedW_eq ha
  have hgl : part (S.m (c.nodesAt + 4 * x)) 32 32 < 4294967296 := Nat.mod_lt _ (by decide)
  obtain ⟨gn, rfl⟩ : ∃ gn : Nat, g = (gn : Int) := ⟨part (S.m (c.nodesAt + 4 * x)) 32 32, hgq.2.symm⟩
  have hs2 := hs.popTicket hok
  have hle := hs.tickets.2.head_le (n := c.tickets) fun y hy => hs.tlt y (List.mem_cons_of_mem _ hy)
  have e2 : ∀ j, j ≠ 2 → upd S.m 2 (turned (S.m 2) ((S.m (tlk c t) : Int) - 1)) j = S.m j := fun j hj => upd_other _ _ hj
  have hpop := fun n => it_pop (R := prApp c R0) (cf := c) (c := .ret (.mg3 w x gn s (S.m (c.nodesAt + 4 * x + 1)) ((v : Int) + 1) k)) (S := S.w 2 S.m) (st := .tickets) (f := t) (l := tlk c t) (n := n) (by show 2 < S.n; omega) hs.tickets.1 (ticketLink_at c t htn) (by show tlk c t < S.n; omega) (by show S.m (tlk c t) ≤ _; omega)
  simp only [St.w_w, St.w_m, Stk.headN] at hpop
  generalize hm2 : upd S.m 2 (turned (S.m 2) ((S.m (tlk c t) : Int) - 1)) = m2 at *
  have htb : ∀ s', s' < c.workers → t ∉ bx s' := fun s' hs' => hs.tb s' hs' t (List.mem_cons_self ..)
  have hst : m2 (c.nodesAt + 4 * x) = S.m (c.nodesAt + 4 * x) := e2 _ (by omega)
  have hs3 := hs2.write (t := t) (kw := keyWord (gn : Int) ((v : Int) + 1) x) (tm := toU (upI (part (S.m (c.nodesAt + 4 * x)) 2 30 : Nat) c.slack)) hok htb
  have hrun : ∀ i, iter c (prApp c R0) (i + 8) (some (migrateK c w x gn s k)) S = iter c (prApp c R0) i (some (putK c s t (.mg7 x gn s (S.m (c.nodesAt + 4 * x + 1)) ((v : Int) + 1) k))) ((S.note (migratePoint w x gn 0)).w 8 (wrM c m2 t (keyWord (gn : Int) ((v : Int) + 1) x) (toU (upI (part (S.m (c.nodesAt + 4 * x)) 2 30 : Nat) c.slack)))) := by
    intro i
    rw [show i + 8 = (i + 6) + 2 from rfl, migrate_home hw hx hn ha, mg2_yes' _ _ _ _ _ _ (by rw [hv]; omega), hv, iterR_some, show i + 6 = (i + 3) + 3 from rfl, hpop, app_ret, mg3_yes', iterR_some, state_at c x hx, show i + 3 = (i + 2) + 1 from rfl, it_load (by show _ < S.n; omega), app_ret,
      mg4_yes' _ _ _ _ _ _ _ _ _ (by show armedW (m2 _) _ = true; rw [hst]; exact ha), iterR_some]
    simp only [St.w_w, St.w_m, St.w_note, St.note_m]
    rw [hst, it_write (k := c.ticketsAt + 3 * t) (t0 := c.ticketsAt + 3 * t + 1) (ticket_at c t htn 0) (ticket_at c t htn 1) (by show _ < S.n; unfold tlk at htl; omega) (by show _ < S.n; unfold tlk at htl; omega), app_ret, mg6_u, iterR_some]
    simp only [St.w_w, St.w_m, St.w_note, St.note_m]
    rfl
  have f1 := @wrM_key c m2 t (keyWord (gn : Int) ((v : Int) + 1) x) (toU (upI (part (S.m (c.nodesAt + 4 * x)) 2 30 : Nat) c.slack))
  have f2 := @wrM_time c m2 t (keyWord (gn : Int) ((v : Int) + 1) x) (toU (upI (part (S.m (c.nodesAt + 4 * x)) 2 30 : Nat) c.slack))
  have f3 := fun j a b => @wrM_rest c m2 t (keyWord (gn : Int) ((v : Int) + 1) x) (toU (upI (part (S.m (c.nodesAt + 4 * x)) 2 30 : Nat) c.slack)) j a b
  generalize wrM c m2 t (keyWord (gn : Int) ((v : Int) + 1) x) (toU (upI (part (S.m (c.nodesAt + 4 * x)) 2 30 : Nat) c.slack)) = m3 at *
  obtain ⟨d, m', hi, hd, hsp, hfr⟩ := put_alone (R0 := R0) hok hsl htn (fn := fn) (bx s) (S := (S.note (migratePoint w x gn 0)).w 8 m3) (ft := ft) (bx := bx) rfl hn hs3 (List.nodup_cons.1 hs.tnd).1 htb (by
    show part (m3 _) 0 16 < _
    rw [f1]
    have := (key_parts3 gn (v + 1) x (by omega) (by omega) (by omega)).2.2
    rw [Int.natCast_add] at this
    have e : part (keyWord (gn : Int) ((v : Int) + 1) x) 0 16 = x := this
    rw [e]; exact hx)
  have hib := inb_bd hsl
  have hhm : m' (c.nodesAt + 4 * x + 1) = S.m (c.nodesAt + 4 * x + 1) := by
    rw [hfr _ (by omega) (by omega) (fun y hy => by have := tlk_lt hy; omega)]
    show m3 _ = _
    rw [f3 _ (by omega) (by omega), e2 _ (by omega)]
  have hsp' : Shop c (upd m' (c.nodesAt + 4 * x + 1) (homeWord (gn : Int) ((v : Int) + 1) s)) fn (((bx s).takeWhile (deadM c m3)).reverse ++ ft) (setB bx s (t :: (bx s).dropWhile (deadM c m3))) := hsp.node hok hx (by decide)
  refine ⟨9 + d, upd m' (c.nodesAt + 4 * x + 1) (homeWord (gn : Int) ((v : Int) + 1) s), m3, ?_, ?_, by omega, hsp', ⟨?_, ?_, ?_, ?_⟩, ?_⟩
  · intro i
    rw [show i + (9 + d) = ((i + 1) + d) + 8 by omega, hrun, hi, mg7_u, iterR_some, home_at x hx, it_cas (by show _ < S.n; omega) hhm, app_ret, mg8_b]
    simp only [St.w_w, St.w_note, St.w_m]
    rw [show 8 + d + 1 = 9 + d by omega]
  · have hd' : d ≤ 8 * ((bx s).takeWhile (deadM c m3)).length + 5 := hd
    omega
  · exact upd_same _ _ _
  · rw [upd_other _ _ (by omega)]; exact (hfr _ (by omega) (by omega) (fun y hy => by unfold tlk; omega)).trans f1
  · rw [upd_other _ _ (by omega)]; exact (hfr _ (by omega) (by omega) (fun y hy => by unfold tlk; omega)).trans f2
  · intro j j1 j2 j3 j4 j5 j6
    rw [upd_other _ _ j3, hfr j j2 j1 j6]
    show m3 j = S.m j
    rw [f3 j j4 j5, e2 j j1]
  · intro j j1 j3 j4
    rw [f3 j j3 j4, e2 j j1]
end
end Go.Proofs.YtgemjjpmoejgdaaGreat
/- The document's shop, and that the cells hold it: what deeds that are done alone turn. -/
namespace Go.Proofs.YtgemjjpmoejgdaaGreat
open Go.RowKit
set_option maxRecDepth 100000
set_option linter.unusedVariables false

structure NodeR where
  gen : Nat
  time : Nat
  status : Nat
  user : Nat
  hgen : Nat
  hver : Nat
  hshard : Nat
  deriving Inhabited
structure TickR where
  node : Nat
  gen : Nat
  ver : Nat
  due : Nat
structure ShopR where
  clock : Nat
  free : List Nat
  tickets : Nat
  nodes : List NodeR
  boxes : List (List TickR)
def dueR (slack deadline : Nat) : Nat := toU (upI deadline slack)
def deadR (N : List NodeR) (t : TickR) : Bool := !((N[t.node]?).any fun n => decide (n.status = 1 ∧ n.gen = t.gen))
/-- A ticket is laid into a box: the dead ones that are first are freed. -/
def layR (R : ShopR) (s : Nat) (t : TickR) : ShopR :=
  { R with tickets := R.tickets + ((R.boxes.getD s []).takeWhile (deadR R.nodes)).length, boxes := R.boxes.set s (t :: (R.boxes.getD s []).dropWhile (deadR R.nodes)) }
def shardR (R : ShopR) (s : Int) : Prop := 0 ≤ s ∧ s < R.boxes.length
instance (R : ShopR) (s : Int) : Decidable (shardR R s) := by unfold shardR; infer_instance
/-- A Start: the shop; the node, the generation, the error. -/
def startR (slack : Nat) (R : ShopR) (ticks shard user : Int) : ShopR × Int × Int × Int :=
  if ticks < 0 ∨ user < 0 ∨ ¬ shardR R shard then (R, 0, 0, 1)
  else if 1073741823 - (R.clock : Int) < ticks then (R, 0, 0, 2)
  else match R.free with
    | [] => (R, 0, 0, 3)
    | x :: fs =>
      if (R.nodes.getD x default).gen = 4294967295 then ({ R with free := fs }, 0, 0, 5)
      else if R.tickets = 0 then (R, 0, 0, 3)
      else (layR { R with free := fs, tickets := R.tickets - 1, nodes := R.nodes.set x { R.nodes.getD x default with gen := (R.nodes.getD x default).gen + 1, time := R.clock + ticks.toNat, status := 1, user := user.toNat } } shard.toNat
          ⟨x, (R.nodes.getD x default).gen + 1, 0, dueR slack (R.clock + ticks.toNat)⟩, (x : Int), ((R.nodes.getD x default).gen + 1 : Nat), 0)
def nodeR (R : ShopR) (n : Int) : Prop := 0 ≤ n ∧ n < R.nodes.length
instance (R : ShopR) (s : Int) : Decidable (nodeR R s) := by unfold nodeR; infer_instance
def armedR (R : ShopR) (n g : Int) : Bool := decide (nodeR R n ∧ (R.nodes.getD n.toNat default).status = 1 ∧ ((R.nodes.getD n.toNat default).gen : Int) = g)
def versionR (R : ShopR) (n g : Int) : Nat := if ((R.nodes.getD n.toNat default).hgen : Int) = g then (R.nodes.getD n.toNat default).hver else 0
def migrateR (slack : Nat) (R : ShopR) (n g s : Int) : ShopR × Int :=
  if ¬ shardR R s then (R, 1) else if armedR R n g = false then (R, 4) else if versionR R n g = 65535 then (R, 5) else if R.tickets = 0 then (R, 3)
  else (layR { R with tickets := R.tickets - 1, nodes := R.nodes.set n.toNat { R.nodes.getD n.toNat default with hgen := g.toNat, hver := versionR R n g + 1, hshard := s.toNat } } s.toNat
      ⟨n.toNat, g.toNat, versionR R n g + 1, dueR slack (R.nodes.getD n.toNat default).time⟩, 0)

/-- A node's cells hold it. -/
structure NodeOk (c : Cf) (m : Nat → Nat) (x : Nat) (n : NodeR) : Prop where
  gen : part (m (c.nodesAt + 4 * x)) 32 32 = n.gen
  status : part (m (c.nodesAt + 4 * x)) 0 2 = n.status
  time : n.status = 1 → part (m (c.nodesAt + 4 * x)) 2 30 = n.time
  user : n.status = 1 → m (c.nodesAt + 4 * x + 2) = n.user
  hgen : part (m (c.nodesAt + 4 * x + 1)) 32 32 = n.hgen
  hver : part (m (c.nodesAt + 4 * x + 1)) 16 16 = n.hver
  hshard : part (m (c.nodesAt + 4 * x + 1)) 0 16 = n.hshard
/-- What a ticket's cells hold. -/
def tickOf (c : Cf) (m : Nat → Nat) (t : Nat) : TickR := ⟨part (m (c.ticketsAt + 3 * t)) 0 16, part (m (c.ticketsAt + 3 * t)) 32 32, part (m (c.ticketsAt + 3 * t)) 16 16, m (c.ticketsAt + 3 * t + 1)⟩
/-- The cells hold the shop. -/
structure RelR (c : Cf) (m : Nat → Nat) (R : ShopR) (fn ft : List Nat) (bx : Nat → List Nat) : Prop where
  shop : Shop c m fn ft bx
  clock : m 0 = R.clock
  cl : R.clock ≤ 1073741823
  free : R.free = fn
  tickets : R.tickets = ft.length
  nl : R.nodes.length = c.nodes
  node : ∀ x n, R.nodes[x]? = some n → NodeOk c m x n
  bl : R.boxes.length = c.workers
  box : ∀ s, s < c.workers → R.boxes.getD s [] = (bx s).map (tickOf c m)
  idle : ∀ x ∈ fn, ¬ part (m (c.nodesAt + 4 * x)) 0 2 = 1

theorem takeWhile_map' {α β : Type} (f : α → β) (p : β → Bool) : ∀ l : List α, (l.map f).takeWhile p = (l.takeWhile fun x => p (f x)).map f
  | [] => rfl
  | x :: l => by
    rw [List.map_cons, List.takeWhile_cons, List.takeWhile_cons]
    cases p (f x)
    · rfl
    · rw [if_pos rfl, if_pos rfl, List.map_cons, takeWhile_map' f p l]
theorem dropWhile_map' {α β : Type} (f : α → β) (p : β → Bool) : ∀ l : List α, (l.map f).dropWhile p = (l.dropWhile fun x => p (f x)).map f
  | [] => rfl
  | x :: l => by
    rw [List.map_cons, List.dropWhile_cons, List.dropWhile_cons]
    cases p (f x)
    · rfl
    · rw [if_pos rfl, if_pos rfl, dropWhile_map' f p l]
theorem takeWhile_congr' {α : Type} {p q : α → Bool} : ∀ {l : List α}, (∀ x ∈ l, p x = q x) → l.takeWhile p = l.takeWhile q ∧ l.dropWhile p = l.dropWhile q
  | [], _ => ⟨rfl, rfl⟩
  | x :: l, h => by
    obtain ⟨h1, h2⟩ := takeWhile_congr' (l := l) fun y hy => h y (List.mem_cons_of_mem _ hy)
    rw [List.takeWhile_cons, List.takeWhile_cons, List.dropWhile_cons, List.dropWhile_cons, h x (List.mem_cons_self ..), h1, h2]
    exact ⟨rfl, rfl⟩
theorem nodup_len : ∀ (n : Nat) (xs : List Nat), xs.Nodup → (∀ x ∈ xs, x < n) → xs.length ≤ n := by
  intro n
  induction n with
  | zero =>
    intro xs _ h
    cases xs with
    | nil => exact Nat.le_refl _
    | cons x xs => have := h x (List.mem_cons_self ..); omega
  | succ n ih =>
    intro xs hn h
    have h1 := ih (xs.erase n) (hn.erase n) fun x hx => by
      have h2 := (List.Nodup.mem_erase_iff hn).1 hx
      have := h x h2.2
      omega
    have h3 := List.length_erase (a := n) (l := xs)
    split at h3 <;> omega
theorem dead_alive {c : Cf} {m : Nat → Nat} {N : List NodeR} (hl : N.length = c.nodes) (hN : ∀ x n, N[x]? = some n → NodeOk c m x n) {t : Nat} (ht : part (m (c.ticketsAt + 3 * t)) 0 16 < c.nodes) : deadM c m t = deadR N (tickOf c m t) := by
  have hlt : part (m (c.ticketsAt + 3 * t)) 0 16 < N.length := by rw [hl]; exact ht
  have he : N[part (m (c.ticketsAt + 3 * t)) 0 16]? = some N[part (m (c.ticketsAt + 3 * t)) 0 16] := List.getElem?_eq_getElem hlt
  have hk := hN _ _ he
  unfold deadM deadR tickOf
  dsimp only
  rw [he, Option.any_some, ← hk.gen, ← hk.status]
  rw [← decide_not]
  refine decide_eq_decide.2 ?_
  constructor
  · rintro (h | h) ⟨h1, h2⟩
    · exact h h1
    · exact h (by rw [h2])
  · intro h
    by_cases h1 : part (m (c.nodesAt + 4 * part (m (c.ticketsAt + 3 * t)) 0 16)) 0 2 = 1
    · exact .inr fun q => h ⟨h1, by omega⟩
    · exact .inl h1
theorem getD_set_eq {α : Type} (l : List α) (s : Nat) (v d : α) (h : s < l.length) : (l.set s v).getD s d = v := by simp [h]
theorem getD_set_ne' {α : Type} (l : List α) {s s' : Nat} (v d : α) (h : s' ≠ s) : (l.set s v).getD s' d = l.getD s' d := by
  simp [Ne.symm h]
/-- A ticket is laid: what the cells hold behind it. -/
theorem lay_rel {c : Cf} {m m' ms : Nat → Nat} {R : ShopR} {fn ft fn' : List Nat} {bx : Nat → List Nat} {t s : Nat} {N' : List NodeR} {tick : TickR} (hr : RelR c m R fn (t :: ft) bx) (hs : s < c.workers)
    (hsp : Shop c m' fn' (((bx s).takeWhile (deadM c ms)).reverse ++ ft) (setB bx s (t :: (bx s).dropWhile (deadM c ms))))
    (hkey : ∀ x, x < c.tickets → x ≠ t → m' (c.ticketsAt + 3 * x) = m (c.ticketsAt + 3 * x) ∧ m' (c.ticketsAt + 3 * x + 1) = m (c.ticketsAt + 3 * x + 1) ∧ ms (c.ticketsAt + 3 * x) = m (c.ticketsAt + 3 * x))
    (hst : ∀ y, y < c.nodes → ms (c.nodesAt + 4 * y) = m' (c.nodesAt + 4 * y)) (h0 : m' 0 = m 0) (hN : N'.length = c.nodes) (hNok : ∀ x n, N'[x]? = some n → NodeOk c m' x n) (htk : tickOf c m' t = tick) (hidle : ∀ x ∈ fn', ¬ part (m' (c.nodesAt + 4 * x)) 0 2 = 1) :
    RelR c m' (layR { R with free := fn', tickets := R.tickets - 1, nodes := N' } s tick) fn' (((bx s).takeWhile (deadM c ms)).reverse ++ ft) (setB bx s (t :: (bx s).dropWhile (deadM c ms))) := by
  have htn : ∀ s', s' < c.workers → ∀ x ∈ bx s', x ≠ t := fun s' hs' x hx e => hr.shop.tb s' hs' t (List.mem_cons_self ..) (e ▸ hx)
  have htick : ∀ s', s' < c.workers → ∀ x ∈ bx s', tickOf c m' x = tickOf c m x := fun s' hs' x hx => by
    obtain ⟨a, b, _⟩ := hkey x (hr.shop.blt s' hs' x hx) (htn s' hs' x hx)
    unfold tickOf
    rw [a, b]
  have hcong := takeWhile_congr' (p := deadM c ms) (q := fun x => deadR N' (tickOf c m x)) (l := bx s) fun x hx => by
    obtain ⟨a, b, d⟩ := hkey x (hr.shop.blt s hs x hx) (htn s hs x hx)
    have hk := hr.shop.key s hs x hx
    have h1 := dead_alive (c := c) (m := m') (N := N') hN hNok (t := x) (by rw [a]; exact hk)
    rw [htick s hs x hx] at h1
    rw [← h1]
    exact deadM_same (by rw [a, d]) (by rw [a]; exact hst _ hk)
  have hb := hr.box s hs
  have e1 : (R.boxes.getD s []).takeWhile (deadR N') = ((bx s).takeWhile (deadM c ms)).map (tickOf c m) := by rw [hb, takeWhile_map', hcong.1]
  have e2 : (R.boxes.getD s []).dropWhile (deadR N') = ((bx s).dropWhile (deadM c ms)).map (tickOf c m) := by rw [hb, dropWhile_map', hcong.2]
  refine ⟨hsp, h0.trans hr.clock, hr.cl, rfl, ?_, hN, hNok, ?_, ?_, hidle⟩
  · show R.tickets - 1 + ((R.boxes.getD s []).takeWhile (deadR N')).length = _
    rw [e1, hr.tickets]
    simp
    omega
  · show (R.boxes.set s _).length = _
    rw [List.length_set]; exact hr.bl
  · intro s' hs'
    show (R.boxes.set s (tick :: (R.boxes.getD s []).dropWhile (deadR N'))).getD s' [] = _
    by_cases e : s' = s
    · subst e
      rw [getD_set_eq _ _ _ _ (by rw [hr.bl]; exact hs), setB_same, e2, List.map_cons, htk]
      congr 1
      refine List.map_congr_left fun x hx => ?_
      exact (htick s' hs x ((List.dropWhile_sublist _).subset hx)).symm
    · rw [getD_set_ne' _ _ _ e, setB_other _ _ e, hr.box s' hs']
      refine List.map_congr_left fun x hx => ?_
      exact (htick s' hs' x hx).symm
theorem NodeOk.same {c : Cf} {m m' : Nat → Nat} {x : Nat} {n : NodeR} (h : NodeOk c m x n) (h0 : m' (c.nodesAt + 4 * x) = m (c.nodesAt + 4 * x)) (h1 : m' (c.nodesAt + 4 * x + 1) = m (c.nodesAt + 4 * x + 1)) (h2 : m' (c.nodesAt + 4 * x + 2) = m (c.nodesAt + 4 * x + 2)) : NodeOk c m' x n :=
  ⟨by rw [h0]; exact h.gen, by rw [h0]; exact h.status, fun q => by rw [h0]; exact h.time q, fun q => by rw [h2]; exact h.user q, by rw [h1]; exact h.hgen, by rw [h1]; exact h.hver, by rw [h1]; exact h.hshard⟩
theorem toU_nat {x : Int} (h0 : 0 ≤ x) (h1 : x < 18446744073709551616) : toU x = x.toNat := by unfold toU; omega
section
variable {ρ : Type} {R0 : ρ → Arg → St → St × Option (K (PR ρ))} {c : Cf} {k : PR ρ} {S : St} {fn ft : List Nat} {bx : Nat → List Nat} {R : ShopR}
/-- What code that is done alone comes to: so many steps; then the continuation is handed what is told; the cells hold another shop. -/
structure Alone (R0 : ρ → Arg → St → St × Option (K (PR ρ))) (c : Cf) (κ : K (PR ρ)) (k : PR ρ) (S : St) (a : Arg) (R' : ShopR) : Prop where
  ex : ∃ d q m' e fn' ft' bx', (∀ n, iter c (prApp c R0) (n + d) (some κ) S = iterR c (prApp c R0) n (prApp c R0 k a ((S.w q m').note e))) ∧ 1 ≤ d ∧ d ≤ 8 * c.tickets + 17 ∧ q ≤ d ∧ RelR c m' R' fn' ft' bx'
theorem RelR.clock' (hr : RelR c S.m R fn ft bx) : S.m 0 ≤ 1073741823 := by rw [hr.clock]; exact hr.cl
theorem RelR.nodeAt (hr : RelR c S.m R fn ft bx) {x : Nat} (hx : x < c.nodes) : NodeOk c S.m x (R.nodes.getD x default) := by
  have hl : x < R.nodes.length := by rw [hr.nl]; exact hx
  have e : R.nodes[x]? = some (R.nodes.getD x default) := by simp [hl]
  exact hr.node x _ e
theorem tw_le (h : Shop c S.m fn ft bx) {s : Nat} (hs : s < c.workers) (p : Nat → Bool) : ((bx s).takeWhile p).length ≤ c.tickets :=
  Nat.le_trans (List.takeWhile_sublist p).length_le (nodup_len c.tickets (bx s) (h.bnd s hs) (h.blt s hs))
theorem shard_not {s : Int} (hr : RelR c S.m R fn ft bx) : ¬ shardR R s ↔ (s < 0 ∨ (c.workers : Int) ≤ s) := by
  unfold shardR
  rw [hr.bl]
  omega
theorem start_rel {wk ticks shard user : Int} (hok : c.Ok) (hn : S.n = c.size) (hr : RelR c S.m R fn ft bx) (hu : user < 9223372036854775808) :
    Alone R0 c (startK c wk ticks shard user k) k S (.he (startR c.slack R ticks shard user).2.1 (startR c.slack R ticks shard user).2.2.1 (startR c.slack R ticks shard user).2.2.2) (startR c.slack R ticks shard user).1 := by
  have hx := hr.clock'
  have hsz := hok.size_le
  unfold startR
  by_cases h : ticks < 0 ∨ user < 0 ∨ ¬ shardR R shard
  · rw [if_pos h]
    have h' : ticks < 0 ∨ user < 0 ∨ shard < 0 ∨ (c.workers : Int) ≤ shard := by rw [shard_not hr] at h; exact h
    exact ⟨1, 0, S.m, startPoint wk 0 0 0 1, fn, ft, bx, fun n => start_arg h' n, Nat.le_refl _, by omega, by omega, hr⟩
  rw [if_neg h]
  have h' : ¬ (ticks < 0 ∨ user < 0 ∨ shard < 0 ∨ (c.workers : Int) ≤ shard) := by rw [shard_not hr] at h; exact h
  by_cases hf : 1073741823 - (R.clock : Int) < ticks
  · rw [if_pos hf]
    exact ⟨1, 1, S.m, startPoint wk 0 0 0 2, fn, ft, bx, fun n => start_range h' (by omega) hx (by rw [hr.clock]; exact hf) n, Nat.le_refl _, by omega, by omega, hr⟩
  rw [if_neg hf]
  have hf' : ¬ 1073741823 - (S.m 0 : Int) < ticks := by rw [hr.clock]; exact hf
  have hfree := hr.free
  cases fn with
  | nil =>
    rw [hfree]
    exact ⟨2, 2, S.m, startPoint wk 0 0 0 3, [], ft, bx, fun n => start_empty h' hn hok hx hf' hr.shop n, by omega, by omega, by omega, hr⟩
  | cons x fs =>
    rw [hfree]
    dsimp only
    have hxn : x < c.nodes := hr.shop.nlt x (List.mem_cons_self ..)
    have hno := hr.nodeAt hxn
    have n9 := hok.nodesAt_le
    have hl := nlk_lt hxn
    have hta : c.ticketsAt = c.nodesAt + 4 * c.nodes := rfl
    by_cases hg : (R.nodes.getD x default).gen = 4294967295
    · rw [if_pos hg]
      refine ⟨5, 5, _, startPoint wk 0 0 0 5, fs, ft, bx, fun n => start_gone h' hn hok hx hf' hr.shop (by rw [hno.gen]; exact hg) n, by omega, by omega, by omega, ?_⟩
      have e1 : ∀ j, j ≠ 1 → upd S.m 1 (turned (S.m 1) ((S.m (nlk c x) : Int) - 1)) j = S.m j := fun j hj => upd_other _ _ hj
      have hs1 := hr.shop.popNode hok
      generalize upd S.m 1 (turned (S.m 1) ((S.m (nlk c x) : Int) - 1)) = m1 at *
      refine ⟨hs1, (e1 0 (by omega)).trans hr.clock, hr.cl, rfl, hr.tickets, hr.nl, fun y n hy => ?_, hr.bl, fun s hs => ?_, fun y hy => ?_⟩
      · exact (hr.node y n hy).same (e1 _ (by omega)) (e1 _ (by omega)) (e1 _ (by omega))
      · rw [hr.box s hs]
        refine List.map_congr_left fun y hy => ?_
        unfold tickOf
        rw [e1 _ (by omega), e1 _ (by omega)]
      · rw [e1 _ (by omega)]; exact hr.idle y (List.mem_cons_of_mem _ hy)
    rw [if_neg hg]
    have htk := hr.tickets
    cases ft with
    | nil =>
      have htk0 : R.tickets = 0 := htk
      rw [if_pos htk0]
      obtain ⟨m', hi, hs', hm⟩ := start_full (R0 := R0) (wk := wk) (k := k) h' hn hok hx hf' hr.shop (by rw [hno.gen]; exact hg)
      refine ⟨9, 9, m', startPoint wk 0 0 0 3, x :: fs, [], bx, hi, by omega, by omega, by omega, ?_⟩
      have e1 : ∀ y j, j < 3 → m' (c.nodesAt + 4 * y + j) = S.m (c.nodesAt + 4 * y + j) := fun y j hj => hm _ (by omega) (by unfold nlk; omega)
      have e0 : ∀ y, m' (c.nodesAt + 4 * y) = S.m (c.nodesAt + 4 * y) := fun y => e1 y 0 (by omega)
      refine ⟨hs', (hm 0 (by omega) (by unfold nlk; omega)).trans hr.clock, hr.cl, hfree, hr.tickets, hr.nl, fun y n hy => ?_, hr.bl, fun s hs => ?_, fun y hy => ?_⟩
      · exact (hr.node y n hy).same (e0 y) (e1 y 1 (by omega)) (e1 y 2 (by omega))
      · rw [hr.box s hs]
        refine List.map_congr_left fun y hy => ?_
        have := hr.shop.blt s hs y hy
        unfold tickOf
        rw [hm _ (by omega) (by omega), hm _ (by omega) (by omega)]
      · rw [e0]; exact hr.idle y hy
    | cons t ft =>
      have htk0 : ¬ R.tickets = 0 := by rw [htk]; simp
      rw [if_neg htk0]
      have hsl : ∃ s : Nat, shard = (s : Int) ∧ s < c.workers := ⟨shard.toNat, by omega, by omega⟩
      obtain ⟨s, rfl, hsw⟩ := hsl
      obtain ⟨d, m', ms, hi, hd, hd1, hsp, hst, hms, hmst⟩ := start_ok (R0 := R0) (wk := wk) (k := k) rfl hsw h' hn hok hx hf' hr.shop hno.gen hg
      have htn : t < c.tickets := hr.shop.tlt t (List.mem_cons_self ..)
      have hib := inb_bd hsw
      have htl : ∀ y, y < c.tickets → c.ticketsAt ≤ tlk c y := fun y hy => (tlk_lt hy).2
      have hle := tw_le hr.shop hsw (deadM c ms)
      have hgl : (R.nodes.getD x default).gen < 4294967296 := by rw [← hno.gen]; exact Nat.mod_lt _ (by decide)
      have hdl : (S.m 0 : Int) + ticks = ((R.clock + ticks.toNat : Nat) : Int) := by rw [hr.clock]; omega
      have hgq : ((R.nodes.getD x default).gen : Int) + 1 = (((R.nodes.getD x default).gen + 1 : Nat) : Int) := by omega
      rw [hdl, hgq] at hi
      rw [hdl, hgq] at hst hmst
      have hcl := hr.cl
      have hsp3 := state_parts3 ((R.nodes.getD x default).gen + 1) (R.clock + ticks.toNat) 1 (by omega) (by omega) (by omega)
      have hkp3 := key_parts3 ((R.nodes.getD x default).gen + 1) 0 x (by omega) (by omega) (by have := hok.n2; omega)
      have rest : ∀ y j, y < c.nodes → j < 3 → (y = x → j = 1) → m' (c.nodesAt + 4 * y + j) = S.m (c.nodesAt + 4 * y + j) := fun y j hy hj hne =>
        hst.rest _ (by omega) (by omega) (by omega) (by omega) (by omega) (by unfold Cf.ticketsAt; omega) (by unfold Cf.ticketsAt; omega) fun z hz => by have := htl z hz; unfold Cf.ticketsAt at this; omega
      have rest0 : ∀ y, y < c.nodes → y ≠ x → m' (c.nodesAt + 4 * y) = S.m (c.nodesAt + 4 * y) := fun y hy hne => rest y 0 hy (by omega) fun e => absurd e hne
      refine ⟨d, d, m', startPoint wk x (((R.nodes.getD x default).gen + 1 : Nat) : Int) ((R.clock + ticks.toNat : Nat) : Int) 0, fs, _, _, ?_, hd1, by omega, Nat.le_refl _, lay_rel hr hsw hsp ?_ ?_ ?_ ?_ ?_ ?_ ?_⟩
      · exact hi
      · intro y hy hne
        refine ⟨hst.rest _ (by omega) (by omega) (by omega) (by omega) (by omega) (by omega) (by omega) (fun z hz => by unfold tlk; omega), hst.rest _ (by omega) (by omega) (by omega) (by omega) (by omega) (by omega) (by omega) (fun z hz => by unfold tlk; omega), hms _ (by omega) (by omega) (by omega) (by omega) (by omega) (by omega)⟩
      · intro y hy
        by_cases e : y = x
        · subst e; rw [hmst, hst.state]
        · rw [rest0 y hy e]
          exact hms _ (by omega) (by omega) (by omega) (by omega) (by unfold Cf.ticketsAt; omega) (by unfold Cf.ticketsAt; omega)
      · exact hst.rest 0 (by omega) (by omega) (by omega) (by omega) (by omega) (by omega) (by omega) fun z hz => by have := htl z hz; omega
      · rw [List.length_set]; exact hr.nl
      · intro y n hy
        have hyn : y < c.nodes := by
          have := (List.getElem?_eq_some_iff.1 hy).1
          rw [List.length_set, hr.nl] at this
          exact this
        by_cases e : y = x
        · subst e
          have hl' : y < R.nodes.length := by rw [hr.nl]; exact hyn
          rw [List.getElem?_set_self hl'] at hy
          obtain rfl := Option.some.inj hy
          refine ⟨?_, ?_, fun _ => ?_, fun _ => ?_, ?_, ?_, ?_⟩
          · rw [hst.state]; exact hsp3.1
          · rw [hst.state]; exact hsp3.2.2
          · rw [hst.state]; exact hsp3.2.1
          · rw [hst.user]; exact toU_nat (by omega) (by omega)
          · rw [rest y 1 hyn (by omega) fun _ => rfl]; exact hno.hgen
          · rw [rest y 1 hyn (by omega) fun _ => rfl]; exact hno.hver
          · rw [rest y 1 hyn (by omega) fun _ => rfl]; exact hno.hshard
        · rw [List.getElem?_set_ne (Ne.symm e)] at hy
          exact (hr.node y n hy).same (rest0 y hyn e) (rest y 1 hyn (by omega) fun _ => rfl) (rest y 2 hyn (by omega) fun q => absurd q e)
      · unfold tickOf
        rw [hst.key, hst.time]
        have k1 := hkp3.1
        have k2 := hkp3.2.1
        have k3 := hkp3.2.2
        rw [show ((0 : Nat) : Int) = 0 from rfl] at k1 k2 k3
        rw [k1, k2, k3]
        rfl
      · intro y hy
        have hyx : y ≠ x := fun e => (List.nodup_cons.1 hr.shop.nnd).1 (e ▸ hy)
        rw [rest0 y (hr.shop.nlt y (List.mem_cons_of_mem _ hy)) hyx]
        exact hr.idle y (List.mem_cons_of_mem _ hy)
theorem RelR.armed (hr : RelR c S.m R fn ft bx) {n g : Int} (hn : nodeR R n) : ∃ x : Nat, n = (x : Int) ∧ x < c.nodes ∧ armedR R n g = armedW (S.m (c.nodesAt + 4 * x)) g ∧ NodeOk c S.m x (R.nodes.getD x default) := by
  obtain ⟨h0, h1⟩ := hn
  have hl := hr.nl
  obtain ⟨x, rfl⟩ : ∃ x : Nat, n = (x : Int) := ⟨n.toNat, by omega⟩
  have hx : x < c.nodes := by omega
  have hno := hr.nodeAt hx
  refine ⟨x, rfl, hx, ?_, hno⟩
  unfold armedR armedW
  rw [hno.gen, hno.status, Int.toNat_natCast]
  exact decide_eq_decide.2 ⟨fun h => h.2, fun h => ⟨⟨h0, h1⟩, h⟩⟩
theorem state_none (c : Cf) (n : Int) (h : ¬ (0 ≤ n ∧ n < (c.nodes : Int))) : c.state n = -1 := by
  unfold Cf.state Cf.node
  rw [among_no h]
  unfold within
  rw [if_pos (by omega)]
theorem RelR.noNode (hr : RelR c S.m R fn ft bx) {n g : Int} (hn : ¬ nodeR R n) : c.state n < 0 ∧ armedR R n g = false := by
  refine ⟨?_, decide_eq_false fun h => hn h.1⟩
  unfold nodeR at hn
  rw [hr.nl] at hn
  rw [state_none c n hn]; decide
/-- A ticket that was laid for a node of which one cell was turned. -/
theorem turned_rel {m' ms : Nat → Nat} {t x s j cw kw tm : Nat} {N' : List NodeR} {tick : TickR} (hok : c.Ok) (hr : RelR c S.m R fn (t :: ft) bx) (hs : s < c.workers) (hx : x < c.nodes) (hj : j < 2)
    (hsp : Shop c m' fn (((bx s).takeWhile (deadM c ms)).reverse ++ ft) (setB bx s (t :: (bx s).dropWhile (deadM c ms)))) (hst : Turned c S.m m' x t s j cw kw tm)
    (hms : ∀ i, i ≠ 2 → (j = 0 → i ≠ c.nodesAt + 4 * x) → i ≠ c.ticketsAt + 3 * t → i ≠ c.ticketsAt + 3 * t + 1 → ms i = S.m i) (hmst : j = 0 → ms (c.nodesAt + 4 * x) = cw) (n' : NodeR) (hN' : N' = R.nodes.set x n')
    (hn' : NodeOk c m' x n') (htk : tickOf c m' t = tick) (hxf : x ∉ fn) :
    RelR c m' (layR { R with tickets := R.tickets - 1, nodes := N' } s tick) fn (((bx s).takeWhile (deadM c ms)).reverse ++ ft) (setB bx s (t :: (bx s).dropWhile (deadM c ms))) := by
  have n9 := hok.nodesAt_le
  have hl := nlk_lt hx
  have hta : c.ticketsAt = c.nodesAt + 4 * c.nodes := rfl
  have htn : t < c.tickets := hr.shop.tlt t (List.mem_cons_self ..)
  have hib := inb_bd hs
  have htl : ∀ y, y < c.tickets → c.ticketsAt ≤ tlk c y := fun y hy => (tlk_lt hy).2
  have rest : ∀ y i, y < c.nodes → i < 3 → ¬ (y = x ∧ i = j) → m' (c.nodesAt + 4 * y + i) = S.m (c.nodesAt + 4 * y + i) := fun y i hy hi hne =>
    hst.rest _ (by omega) (by omega) (fun e => hne ⟨by omega, by omega⟩) (by unfold Cf.ticketsAt; omega) (by unfold Cf.ticketsAt; omega) fun z hz => by have := htl z hz; unfold Cf.ticketsAt at this; omega
  have e : { R with tickets := R.tickets - 1, nodes := N' } = ({ R with free := fn, tickets := R.tickets - 1, nodes := N' } : ShopR) := by rw [← hr.free]
  rw [e]
  refine lay_rel hr hs hsp ?_ ?_ ?_ ?_ ?_ htk ?_
  · intro y hy hne
    exact ⟨hst.rest _ (by omega) (by omega) (by omega) (by omega) (by omega) (fun z hz => by unfold tlk; omega), hst.rest _ (by omega) (by omega) (by omega) (by omega) (by omega) (fun z hz => by unfold tlk; omega), hms _ (by omega) (by omega) (by omega) (by omega)⟩
  · intro y hy
    by_cases q : y = x ∧ j = 0
    · obtain ⟨rfl, rfl⟩ := q
      rw [hmst rfl]; exact hst.cell.symm
    · have r0 := rest y 0 hy (by omega) (by omega)
      rw [Nat.add_zero] at r0
      rw [r0]
      exact hms _ (by omega) (by omega) (by unfold Cf.ticketsAt; omega) (by unfold Cf.ticketsAt; omega)
  · exact hst.rest 0 (by omega) (by omega) (by omega) (by omega) (by omega) fun z hz => by have := htl z hz; omega
  · rw [hN', List.length_set]; exact hr.nl
  · intro y n hy
    rw [hN'] at hy
    have hyn : y < c.nodes := by
      have := (List.getElem?_eq_some_iff.1 hy).1
      rw [List.length_set, hr.nl] at this
      exact this
    by_cases q : y = x
    · subst q
      have hl' : y < R.nodes.length := by rw [hr.nl]; exact hyn
      rw [List.getElem?_set_self hl'] at hy
      obtain rfl := Option.some.inj hy
      exact hn'
    · rw [List.getElem?_set_ne (Ne.symm q)] at hy
      have r0 := rest y 0 hyn (by omega) (by omega)
      rw [Nat.add_zero] at r0
      exact (hr.node y n hy).same r0 (rest y 1 hyn (by omega) (by omega)) (rest y 2 hyn (by omega) (by omega))
  · intro y hy
    have hyx : y ≠ x := fun q => hxf (q ▸ hy)
    have r0 := rest y 0 (hr.shop.nlt y hy) (by omega) (by omega)
    rw [Nat.add_zero] at r0
    rw [r0]
    exact hr.idle y hy
theorem home_parts3 (g v s : Nat) (hg : g < 4294967296) (hv : v < 65536) (hs : s < 65536) : part (homeWord g v s) 32 32 = g ∧ part (homeWord g v s) 16 16 = v ∧ part (homeWord g v s) 0 16 = s := key_parts3 g v s hg hv hs
theorem migrate_rel {w n g s : Int} (hok : c.Ok) (hn : S.n = c.size) (hr : RelR c S.m R fn ft bx) : Alone R0 c (migrateK c w n g s k) k S (.e (migrateR c.slack R n g s).2) (migrateR c.slack R n g s).1 := by
  unfold migrateR
  by_cases h : shardR R s
  · rw [if_neg (fun q => q h)]
    have h' : ¬ (s < 0 ∨ (c.workers : Int) ≤ s) := fun q => ((shard_not hr).2 q) h
    by_cases hnd : nodeR R n
    · obtain ⟨x, rfl, hx, ha, hno⟩ := hr.armed (g := g) hnd
      cases hw : armedW (S.m (c.nodesAt + 4 * x)) g with
      | false =>
        rw [ha, hw, if_pos rfl]
        exact ⟨1, 1, S.m, migratePoint w x g 4, fn, ft, bx, fun i => migrate_no h' hx hn hw i, by omega, by omega, by omega, hr⟩
      | true =>
        rw [ha, hw, if_neg (by decide)]
        have haw := armedW_eq hw
        have hv : homeV (S.m (c.nodesAt + 4 * x + 1)) g = (versionR R x g : Int) := by
          unfold homeV versionR
          rw [hno.hgen, hno.hver, Int.toNat_natCast]
          split <;> rfl
        have hvb := homeV_bd (S.m (c.nodesAt + 4 * x + 1)) g
        rw [hv] at hvb
        by_cases hve : versionR R x g = 65535
        · rw [if_pos hve]
          exact ⟨2, 2, S.m, migratePoint w x g 5, fn, ft, bx, fun i => migrate_gone h' hx hn hw (by rw [hv, hve]; rfl) i, by omega, by omega, by omega, hr⟩
        rw [if_neg hve]
        have htk := hr.tickets
        cases ft with
        | nil =>
          have htk0 : R.tickets = 0 := htk
          rw [if_pos htk0]
          exact ⟨3, 3, S.m, migratePoint w x g 3, fn, [], bx, fun i => migrate_full h' hx hok hn hw (by rw [hv]; omega) hr.shop i, by omega, by omega, by omega, hr⟩
        | cons t ft =>
          have htk0 : ¬ R.tickets = 0 := by rw [htk]; simp
          rw [if_neg htk0]
          obtain ⟨s, rfl, hsl⟩ : ∃ s' : Nat, s = (s' : Int) ∧ s' < c.workers := ⟨s.toNat, by omega, by omega⟩
          obtain ⟨d, m', ms, hi, hd, hd1, hsp, hst, hms⟩ := migrate_ok (R0 := R0) (k := k) (w := w) hsl hx hok hn hw hv (by omega) hr.shop
          have hle := tw_le hr.shop hsl (deadM c ms)
          have hgl : part (S.m (c.nodesAt + 4 * x)) 32 32 < 4294967296 := Nat.mod_lt _ (by decide)
          obtain ⟨gn, rfl⟩ : ∃ gn : Nat, g = (gn : Int) := ⟨part (S.m (c.nodesAt + 4 * x)) 32 32, haw.2.symm⟩
          have hgn : part (S.m (c.nodesAt + 4 * x)) 32 32 = gn := by have := haw.2; omega
          have hvq : ((versionR R x gn : Nat) : Int) + 1 = ((versionR R x gn + 1 : Nat) : Int) := by omega
          rw [hvq] at hst
          have hw2 := hok.w2
          have hsp3 := home_parts3 gn (versionR R x gn + 1) s (by omega) (by omega) (by omega)
          have hkp3 := key_parts3 gn (versionR R x gn + 1) x (by omega) (by omega) (by have := hok.n2; omega)
          have n9 := hok.nodesAt_le
          have hl := nlk_lt hx
          have hta : c.ticketsAt = c.nodesAt + 4 * c.nodes := rfl
          have hib := inb_bd hsl
          have htl : ∀ y, y < c.tickets → c.ticketsAt ≤ tlk c y := fun y hy => (tlk_lt hy).2
          have r1 : ∀ i, i = 0 ∨ i = 2 → m' (c.nodesAt + 4 * x + i) = S.m (c.nodesAt + 4 * x + i) := fun i hi =>
            hst.rest _ (by omega) (by omega) (by omega) (by unfold Cf.ticketsAt; omega) (by unfold Cf.ticketsAt; omega) fun z hz => by have := htl z hz; unfold Cf.ticketsAt at this; omega
          have r0 := r1 0 (.inl rfl)
          rw [Nat.add_zero] at r0
          have hs1 : (R.nodes.getD x default).status = 1 := by rw [← hno.status]; exact haw.1
          refine ⟨d, d, m', migratePoint w x gn 0, fn, _, _, ?_, hd1, by omega, Nat.le_refl _, turned_rel hok hr hsl hx (by decide) hsp hst (fun i a b d e => hms i a d e) (fun q => absurd q (by decide)) _ rfl ?_ ?_ (fun q => hr.idle x q haw.1)⟩
          · exact hi
          · refine ⟨?_, ?_, fun q => ?_, fun q => ?_, ?_, ?_, ?_⟩
            · rw [r0]; exact hno.gen
            · rw [r0]; exact hno.status
            · rw [r0]; exact hno.time q
            · rw [r1 2 (.inr rfl)]; exact hno.user q
            · rw [hst.cell]; exact hsp3.1
            · rw [hst.cell]; exact hsp3.2.1
            · rw [hst.cell]; exact hsp3.2.2
          · unfold tickOf
            rw [hst.key, hst.time, hkp3.1, hkp3.2.1, hkp3.2.2, hno.time hs1]
            rfl
    · obtain ⟨h1, h2⟩ := hr.noNode (g := g) hnd
      rw [h2, if_pos rfl]
      exact ⟨1, 0, S.m, migratePoint w n g 4, fn, ft, bx, fun i => migrate_stale h' h1 i, Nat.le_refl _, by omega, by omega, hr⟩
  · rw [if_pos h]
    exact ⟨1, 0, S.m, migratePoint w n g 1, fn, ft, bx, fun i => migrate_arg ((shard_not hr).1 h) i, Nat.le_refl _, by omega, by omega, hr⟩
end
end Go.Proofs.YtgemjjpmoejgdaaGreat
/- Pop, as steps. -/
namespace Go.Proofs.YtgemjjpmoejgdaaGreat
open Go.RowKit
set_option maxRecDepth 100000
set_option linter.unusedVariables false

/-- A stack's link is a function of the plan. -/
structure StkOk (E : G) (f : FuncId) (lk : Int → Int) : Prop where
  en : EntersF f
  ln : ∀ (i : Int) (W : World), PlanAt W E.p E.cf → Calls Tryz.prog f #[.pointer (some ⟨E.p, 0, none⟩), .int .i64 i] W (Qt (.int .i64 (lk i)) W)
structure StkAt (w : World) (b : Nat) (E : G) (f : FuncId) (head : Int) : Prop where
  c0 : w.cell? ⟨b, 0, none⟩ = some (.pointer (some ⟨E.a, 0, none⟩))
  c1 : w.cell? ⟨b, 1, none⟩ = some (.int .i64 head)
  c2 : w.cell? ⟨b, 2, none⟩ = some (.func (.func f) #[.pointer (some ⟨E.p, 0, none⟩)] #[])
theorem StkAt.ext {t : Nat} {L L' : Lab} {w w' : World} {b : Nat} {E : G} {f : FuncId} {head : Int} (h : StkAt w b E f head) (hx : Ext t L w L' w') (l : L b = 0) : StkAt w' b E f head := ⟨hx.cell0 h.c0 l, hx.cell0 h.c1 l, hx.cell0 h.c2 l⟩
theorem StkAt.below {w w' : World} {b : Nat} {E : G} {f : FuncId} {head : Int} (h : StkAt w b E f head) (hb : Below w.heap.size w w') : StkAt w' b E f head := ⟨below_cell hb h.c0, below_cell hb h.c1, below_cell hb h.c2⟩
def stkVal (E : G) (f : FuncId) (head : Int) : Value := .agg #[.pointer (some ⟨E.a, 0, none⟩), .int .i64 head, .func (.func f) #[.pointer (some ⟨E.p, 0, none⟩)] #[]]

section
variable {ρ : Type} {R : ρ → Arg → St → St × Option (K ρ)} {E : G} {t : Nat}
theorem enters_pop1 : EntersF 101 := enters_of Tryz.func101 (by kernel_rfl) rfl
theorem enters_pop11 : EntersF 103 := enters_of Tryz.func103 (by kernel_rfl) rfl
theorem enters_pop111 : EntersF 106 := enters_of Tryz.func106 (by kernel_rfl) rfl

set_option maxHeartbeats 1000000 in
theorem popC_con {n : Nat} {st : Stk} {f : FuncId} {first : Int} {vk : Value} {c : C ρ} {L : Lab} {w : World} {bs bt bf : Nat}
    (hs : StkAt w bs E f st.head) (ht : w.cell? ⟨bt, 0, none⟩ = some vk) (hf : w.cell? ⟨bf, 0, none⟩ = some (.int .i64 first)) (ls : L bs = 0) (lt : L bt = 0) (lf : L bf = 0) (hfb : 0 ≤ first ∧ first ≤ 4294967294)
    (hk : ConSim E.cf R E t isPop n L w vk c)
    (ih : ∀ L' w' S, Ext t L w L' w' → Good E L' S w' → Calls Tryz.prog 25 #[stkVal E f st.head, vk] w' (Post E.cf R E t n L' w' (S, some (popK st c)))) :
    ConSim E.cf R E t isB n L w (.func (.func 106) #[] #[.pointer (some ⟨bs, 0, none⟩), .pointer (some ⟨bt, 0, none⟩), .pointer (some ⟨bf, 0, none⟩)]) (.popC st first c) := by
  refine ⟨_, _, rfl, enters_pop111, ?_⟩
  intro a L' w' S ha hx hg hbd
  cases a with
  | b ok =>
    obtain ⟨c0, c1, c2⟩ := hs.ext hx ls
    have q1 := hx.cell0 ht lt
    have q2 := hx.cell0 hf lf
    show Calls _ _ #[_, _, _, _] _ _
    cases ok with
    | false =>
      have hi := ih L' w' S hx hg
      unfold stkVal at hi
      have HI := Go.Lib.hid hi
      show Calls _ _ _ _ (Post E.cf R E t n L' w' (S, some (popK st c)))
      clear hi ih hk hx hg hbd ha
      generalize popK st c = kk at *
      go_enter Tryz.func106, Tryz.ntmps106
      go_wp2_with fail
      refine HI.out.mono ?_
      rintro e w2 ⟨v2, L2, rfl, hd2, hg2, hc2⟩
      go_wp2
      go_ret
      exact ⟨v2, L2, rfl, hd2, hg2, hc2⟩
    | true =>
      obtain ⟨g, cap, rfl, hgf, hk⟩ := hk
      have hgf' : ∀ (args : Array Value) (w : World), (callFunc g args).run Tryz.prog w = .ok (.enter g args) w := hgf
      have hk1 := hk (.pop first true) L' w' S ⟨by omega, by omega⟩ hx hg hbd
      have HK := Go.Lib.hid hk1
      show Calls _ _ _ _ (Post E.cf R E t n L' w' (app E.cf R c (.pop first true) S))
      clear hk1 hk ih hx hg hbd ha
      generalize app E.cf R c (.pop first true) S = rr at *
      go_enter Tryz.func106, Tryz.ntmps106
      go_wp2_with (go_at_fn g; refine HK.out.mono ?_; rintro e w2 ⟨v2, L2, rfl, hd2, hg2, hc2⟩)
      go_ret
      exact ⟨v2, L2, rfl, hd2, hg2, hc2⟩
  | _ => exact absurd ha (by simp [isB])

/-- Code at level 0 is any function. -/
theorem post_zero {L : Lab} {w w' : World} {v : Value} {r : St × Option (K ρ)} (hd : Did t L w L w') (hg : Good E L r.1 w') : Post E.cf R E t 0 L w r (.returned v) w' := ⟨v, L, rfl, hd, hg, trivial⟩
set_option maxHeartbeats 1000000 in
theorem cas_zero {i : Int} {old v : Nat} {g : FuncId} {rc cap : Array Value} {L : Lab} {w : World} {S : St} {o : Option (K ρ)} (hg : Good E L S w) :
    Calls Tryz.prog 104 #[.pointer (some ⟨E.a, 0, none⟩), .int .i64 i, .int .u64 old, .int .u64 v, .func (.func g) rc cap] w (Post E.cf R E t 0 L w (S, o)) := by
  go_enter Tryz.func104, Tryz.ntmps104
  go_wp2
  go_ret
  have hb := below_five (w := w) (.cells #[.pointer (some ⟨E.a, 0, none⟩)] 57) (.cells #[.int .i64 i] 3) (.cells #[.int .u64 old] 92) (.cells #[.int .u64 v] 92) (.cells #[.func (.func g) rc cap] 114)
  exact post_zero (below_did hb t L) (hg.below hb)
set_option maxHeartbeats 1000000 in
theorem load_zero {i : Int} {g : FuncId} {rc cap : Array Value} {L : Lab} {w : World} {S : St} {o : Option (K ρ)} (hg : Good E L S w) :
    Calls Tryz.prog 91 #[.pointer (some ⟨E.a, 0, none⟩), .int .i64 i, .func (.func g) rc cap] w (Post E.cf R E t 0 L w (S, o)) := by
  go_enter Tryz.func91, Tryz.ntmps91
  go_wp2
  go_ret
  have hb : Below w.heap.size w (((w.alloc (.cells #[.pointer (some ⟨E.a, 0, none⟩)] 57)).alloc (.cells #[.int .i64 i] 3)).alloc (.cells #[.func (.func g) rc cap] 150)) :=
    ((((Below.refl _ _).alloc (Nat.le_refl _) _).alloc (by simp) _).alloc (by simp; omega) _)
  exact post_zero (below_did hb t L) (hg.below hb)
end
end Go.Proofs.YtgemjjpmoejgdaaGreat
