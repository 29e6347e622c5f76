/- A Start that is done alone. -/
import Derived.Test.YtgemjjpmoejgdaaGreatHqi
namespace Go.Proofs.YtgemjjpmoejgdaaGreat
open Go.RowKit
set_option maxRecDepth 100000
set_option linter.unusedVariables false

theorem fits_yes {n : Int} {w : Nat} (h0 : 0 ≤ n) (h1 : n < 2 ^ w) : fits n w = true := by unfold fits; exact decide_eq_true ⟨h0, h1⟩
theorem packed3 (a b c : Nat) {A B P1 P2 P3 : Nat} (hA : 2 ^ (64 - a) = A) (hB : 2 ^ (64 - (a + b)) = B) (p1 : 2 ^ a = P1) (p2 : 2 ^ b = P2) (p3 : 2 ^ c = P3) (n1 n2 n3 : Nat) (h1 : n1 < P1) (h2 : n2 < P2) (h3 : n3 < P3) (hs : a + b + c = 64) : (packed [a, b, c] [(n1 : Int), (n2 : Int), (n3 : Int)]).1 = n1 * A + n2 * B + n3 := by
  subst p1 p2 p3
  have c1 : ∀ n w : Nat, n < 2 ^ w → fits (n : Int) w = true := fun n w h => fits_yes (by omega) (by exact_mod_cast h)
  unfold packed
  simp only [List.length_cons, List.length_nil]
  rw [if_pos (by simp [List.range_succ, c1 _ _ h1, c1 _ _ h2, c1 _ _ h3])]
  simp only [packAcc, wsum, List.take_succ_cons, List.take_zero, List.sum_cons, List.sum_nil, List.getD_cons_zero, List.getD_cons_succ, Int.toNat_natCast]
  have e : 64 - (a + (b + (c + 0))) = 0 := by omega
  rw [e, Nat.add_zero, Nat.add_zero, hA, hB]
  simp [Nat.add_assoc]
theorem stateWord_nat (g t s : Nat) (hg : g < 4294967296) (ht : t < 1073741824) (hs : s < 4) : stateWord g t s = g * 4294967296 + t * 4 + s :=
  (stateWord_eq g t s).symm.trans <| packed3 32 30 2 (by decide) (by decide) (by decide) (by decide) (by decide) g t s hg ht hs rfl
theorem keyWord_eq (g v n : Int) : (packed [32, 16, 16] [g, v, n]).1 = keyWord g v n := rfl
theorem keyWord_nat (g v n : Nat) (hg : g < 4294967296) (hv : v < 65536) (hn : n < 65536) : keyWord g v n = g * 4294967296 + v * 65536 + n :=
  (keyWord_eq g v n).symm.trans <| packed3 32 16 16 (by decide) (by decide) (by decide) (by decide) (by decide) g v n hg hv hn rfl
theorem part_hi (x : Nat) : part x 32 32 = x / 4294967296 % 4294967296 := by unfold part; rfl
theorem part_16 (x : Nat) : part x 16 16 = x / 65536 % 65536 := by unfold part; rfl
theorem part_0_16 (x : Nat) : part x 0 16 = x % 65536 := by unfold part; simp
theorem part_2_30 (x : Nat) : part x 2 30 = x / 4 % 1073741824 := by unfold part; rfl
theorem part_0_2 (x : Nat) : part x 0 2 = x % 4 := by unfold part; simp
theorem state_parts3 (g t s : Nat) (hg : g < 4294967296) (ht : t < 1073741824) (hs : s < 4) : part (stateWord g t s) 32 32 = g ∧ part (stateWord g t s) 2 30 = t ∧ part (stateWord g t s) 0 2 = s := by
  rw [stateWord_nat g t s hg ht hs, part_hi, part_2_30, part_0_2]
  refine ⟨?_, ?_, ?_⟩ <;> omega
theorem key_parts3 (g v n : Nat) (hg : g < 4294967296) (hv : v < 65536) (hn : n < 65536) : part (keyWord g v n) 32 32 = g ∧ part (keyWord g v n) 16 16 = v ∧ part (keyWord g v n) 0 16 = n := by
  rw [keyWord_nat g v n hg hv hn, part_hi, part_16, part_0_16]
  refine ⟨?_, ?_, ?_⟩ <;> omega

theorem Ch.same {m m' lk : Nat → Nat} : ∀ {xs : List Nat} {p : Nat}, Ch m lk p xs → (∀ x ∈ xs, m' (lk x) = m (lk x)) → Ch m' lk p xs
  | [], _, h, _ => h
  | x :: xs, p, h, hn => by
    refine ⟨h.1, ?_⟩
    rw [hn x (List.mem_cons_self ..)]
    exact h.2.same fun y hy => hn y (List.mem_cons_of_mem _ hy)
/-- Nothing was turned that lists hang on. -/
theorem Shop.same {c : Cf} {m m' : Nat → Nat} {fn ft : List Nat} {bx : Nat → List Nat} (h : Shop c m fn ft bx) (h1 : ∀ j, 1 ≤ j → j < c.nodesAt → m' j = m j) (h2 : ∀ x, x < c.nodes → m' (nlk c x) = m (nlk c x)) (h3 : ∀ x, x < c.tickets → m' (tlk c x) = m (tlk c x))
    (h4 : ∀ s, s < c.workers → ∀ x ∈ bx s, m' (c.ticketsAt + 3 * x) = m (c.ticketsAt + 3 * x)) (h9 : 9 ≤ c.nodesAt) : Shop c m' fn ft bx where
  nodes := by rw [h1 1 (by omega) (by omega)]; exact h.nodes.same fun x hx => h2 x (h.nlt x hx)
  tickets := by rw [h1 2 (by omega) (by omega)]; exact h.tickets.same fun x hx => h3 x (h.tlt x hx)
  boxes := fun s hs => by rw [h1 _ (by have := inb_bd hs; omega) (inb_bd hs).2]; exact (h.boxes s hs).same fun x hx => h3 x (h.blt s hs x hx)
  nlt := h.nlt
  tlt := h.tlt
  blt := h.blt
  nnd := h.nnd
  tnd := h.tnd
  bnd := h.bnd
  tb := h.tb
  bb := h.bb
  key := fun s hs x hx => by rw [h4 s hs x hx]; exact h.key s hs x hx
theorem Shop.popNode {c : Cf} {m : Nat → Nat} {fn ft : List Nat} {bx : Nat → List Nat} {x : Nat} (hok : c.Ok) (h : Shop c m (x :: fn) ft bx) : Shop c (upd m 1 (turned (m 1) ((m (nlk c x) : Int) - 1))) fn ft bx := by
  have n9 := hok.nodesAt_le
  have nt := nodes_tickets c
  have n2 := hok.n2
  have hle := h.nodes.2.head_le (n := c.nodes) fun y hy => h.nlt y (List.mem_cons_of_mem _ hy)
  refine ⟨?_, ?_, ?_, fun y hy => h.nlt y (List.mem_cons_of_mem _ hy), h.tlt, h.blt, (List.nodup_cons.1 h.nnd).2, h.tnd, h.bnd, h.tb, h.bb, ?_⟩
  · rw [upd_same, headIdx_next _ _ (by omega)]
    exact h.nodes.2.upd fun y hy => by have := nlk_lt (h.nlt y (List.mem_cons_of_mem _ hy)); omega
  · rw [upd_other _ _ (by omega)]
    exact h.tickets.upd fun y hy => by have := tlk_lt (h.tlt y hy); omega
  · intro s hs
    have := inb_bd hs
    rw [upd_other _ _ (by omega)]
    exact (h.boxes s hs).upd fun y hy => by have := tlk_lt (h.blt s hs y hy); omega
  · intro s hs y hy
    rw [upd_other _ _ (by omega)]
    exact h.key s hs y hy
theorem Shop.popTicket {c : Cf} {m : Nat → Nat} {fn ft : List Nat} {bx : Nat → List Nat} {x : Nat} (hok : c.Ok) (h : Shop c m fn (x :: ft) bx) : Shop c (upd m 2 (turned (m 2) ((m (tlk c x) : Int) - 1))) fn ft bx := by
  have n9 := hok.nodesAt_le
  have nt := nodes_tickets c
  have n2 := hok.t2
  have hle := h.tickets.2.head_le (n := c.tickets) fun y hy => h.tlt y (List.mem_cons_of_mem _ hy)
  refine ⟨?_, ?_, ?_, h.nlt, fun y hy => h.tlt y (List.mem_cons_of_mem _ hy), h.blt, h.nnd, (List.nodup_cons.1 h.tnd).2, h.bnd, fun s hs y hy => h.tb s hs y (List.mem_cons_of_mem _ hy), h.bb, ?_⟩
  · rw [upd_other _ _ (by omega)]
    exact h.nodes.upd fun y hy => by have := nlk_lt (h.nlt y hy); omega
  · rw [upd_same, headIdx_next _ _ (by omega)]
    exact h.tickets.2.upd fun y hy => by have := tlk_lt (h.tlt y (List.mem_cons_of_mem _ hy)); omega
  · intro s hs
    have := inb_bd hs
    rw [upd_other _ _ (by omega)]
    exact (h.boxes s hs).upd fun y hy => by have := tlk_lt (h.blt s hs y hy); omega
  · intro s hs y hy
    rw [upd_other _ _ (by omega)]
    exact h.key s hs y hy
theorem Shop.pushNode {c : Cf} {m : Nat → Nat} {fn ft : List Nat} {bx : Nat → List Nat} {x : Nat} (hok : c.Ok) (h : Shop c m fn ft bx) (hx : x < c.nodes) (hf : x ∉ fn) : Shop c (upd (upd m (nlk c x) (part (m 1) 0 32)) 1 (turned (m 1) x)) (x :: fn) ft bx := by
  have n9 := hok.nodesAt_le
  have nt := nodes_tickets c
  have n2 := hok.n2
  have hl := nlk_lt hx
  refine ⟨?_, ?_, ?_, ?_, h.tlt, h.blt, List.nodup_cons.2 ⟨hf, h.nnd⟩, h.tnd, h.bnd, h.tb, h.bb, ?_⟩
  · rw [upd_same]
    refine ⟨headIdx_turned _ _ (by omega), ?_⟩
    rw [upd_other _ _ (by omega), upd_same]
    exact (h.nodes.upd fun y hy => fun e => hf (by rw [← nlk_inj e]; exact hy)).upd fun y hy => by have := nlk_lt (h.nlt y hy); omega
  · rw [upd_other _ _ (by omega), upd_other _ _ (by omega)]
    exact (h.tickets.upd fun y hy => by have := tlk_lt (h.tlt y hy); omega).upd fun y hy => by have := tlk_lt (h.tlt y hy); omega
  · intro s hs
    have := inb_bd hs
    rw [upd_other _ _ (by omega), upd_other _ _ (by omega)]
    exact ((h.boxes s hs).upd fun y hy => by have := tlk_lt (h.blt s hs y hy); omega).upd fun y hy => by have := tlk_lt (h.blt s hs y hy); omega
  · intro y hy
    rcases List.mem_cons.1 hy with rfl | hy
    · exact hx
    · exact h.nlt y hy
  · intro s hs y hy
    rw [upd_other _ _ (by omega), upd_other _ _ (by omega)]
    exact h.key s hs y hy

section
variable {ρ : Type} {R0 : ρ → Arg → St → St × Option (K (PR ρ))} {c : Cf} {wk ticks shard user : Int} {k : PR ρ} {S : St} {fn ft : List Nat} {bx : Nat → List Nat}
theorem start_arg (h : ticks < 0 ∨ user < 0 ∨ shard < 0 ∨ (c.workers : Int) ≤ shard) (n : Nat) :
    iter c (prApp c R0) (n + 1) (some (startK c wk ticks shard user k)) S = iterR c (prApp c R0) n (prApp c R0 k (.he 0 0 1) (S.note (startPoint wk 0 0 0 1))) := by
  unfold startK
  rw [if_pos h]
  rfl
theorem toI_clock {x : Nat} (hx : x ≤ 1073741823) : toI x = x := by unfold toI wrap64; omega
theorem St.w_m (S : St) (d : Nat) (m : Nat → Nat) : (S.w d m).m = m := rfl
theorem St.w_w (S : St) (d e : Nat) (m m' : Nat → Nat) : (S.w d m).w e m' = S.w (d + e) m' := by unfold St.w; simp only [Nat.add_assoc]
theorem St.w_note (S : St) (d : Nat) (m : Nat → Nat) (e : Ev) : (S.w d m).note e = (S.note e).w d m := rfl
theorem St.note_m (S : St) (e : Ev) : (S.note e).m = S.m := rfl
theorem St.note_n (S : St) (e : Ev) : (S.note e).n = S.n := rfl
theorem iterR_some {ρ : Type} {cf : Cf} {R : ρ → Arg → St → St × Option (K ρ)} (n : Nat) (S : St) (κ : K ρ) : iterR cf R n (S, some κ) = iter cf R n (some κ) S := rfl
theorem st1_w (x : Nat) (T : St) (hx : x ≤ 1073741823) : prApp c R0 (.st1 wk ticks shard user k) (.w x) T = if 1073741823 - (x : Int) < ticks then prApp c R0 k (.he 0 0 2) (T.note (startPoint wk 0 0 0 2)) else (T, some (popK .nodes (.ret (.st2 wk shard user ((x : Int) + ticks) k)))) := by
  rw [prApp, if_neg (by omega), toI_clock hx]
theorem st2_yes' (x : Nat) (dl : Int) (T : St) : prApp c R0 (.st2 wk shard user dl k) (.pop (x : Int) true) T = (T, some (.load (c.state x) (.ret (.st3 wk shard user dl x k)))) := by
  rw [prApp, if_neg (by omega), if_pos rfl]
theorem st2_no' (dl : Int) (T : St) : prApp c R0 (.st2 wk shard user dl k) (.pop (-1) false) T = prApp c R0 k (.he 0 0 3) (T.note (startPoint wk 0 0 0 3)) := by
  rw [prApp, if_neg (by simp), if_neg (by simp)]
theorem st3_gone (x : Nat) (n dl : Int) (T : St) (h : part x 32 32 = 4294967295) : prApp c R0 (.st3 wk shard user dl n k) (.w x) T = prApp c R0 k (.he 0 0 5) (T.note (startPoint wk 0 0 0 5)) := by
  rw [prApp, if_pos h]
theorem st3_yes' (x : Nat) (n dl : Int) (T : St) (h : ¬ part x 32 32 = 4294967295) : prApp c R0 (.st3 wk shard user dl n k) (.w x) T = (T, some (popK .tickets (.ret (.st4 wk shard user dl n ((part x 32 32 : Nat) + 1) k)))) := by
  rw [prApp, if_neg h]
theorem st4_no' (n gen dl : Int) (T : St) : prApp c R0 (.st4 wk shard user dl n gen k) (.pop (-1) false) T = (T.note (startPoint wk 0 0 0 3), some (pushK .nodes n (.ret (.st5 k)))) := by
  rw [prApp, if_neg (by simp)]
theorem st4_yes' (n gen dl t : Int) (T : St) : prApp c R0 (.st4 wk shard user dl n gen k) (.pop t true) T = (T, some (writeK c t gen 0 n dl (.ret (.st6 wk shard user dl n gen t k)))) := by
  rw [prApp, if_pos rfl]
theorem st5_u (T : St) : prApp c R0 (.st5 k) .u T = prApp c R0 k (.he 0 0 3) T := by rw [prApp]
theorem st6_u (n gen dl t : Int) (T : St) : prApp c R0 (.st6 wk shard user dl n gen t k) .u T = (T, some (.store (c.user n) (toU user) (.ret (.st7 wk shard dl n gen t k)))) := by rw [prApp]
theorem st7_u (n gen dl t : Int) (T : St) : prApp c R0 (.st7 wk shard dl n gen t k) .u T = (T, some (.store (c.state n) (stateWord gen dl 1) (.ret (.st8 wk shard dl n gen t k)))) := by rw [prApp]
theorem st8_u (n gen dl t : Int) (T : St) : prApp c R0 (.st8 wk shard dl n gen t k) .u T = (T.note (startPoint wk n gen dl 0), some (putK c shard t (.st9 n gen k))) := by rw [prApp]
theorem st9_u (n gen : Int) (T : St) : prApp c R0 (.st9 n gen k) .u T = prApp c R0 k (.he n gen 0) T := by rw [prApp]
theorem start_load (h : ¬ (ticks < 0 ∨ user < 0 ∨ shard < 0 ∨ (c.workers : Int) ≤ shard)) (h0 : 0 < S.n) (hx : S.m 0 ≤ 1073741823) (n : Nat) :
    iter c (prApp c R0) (n + 1) (some (startK c wk ticks shard user k)) S = iterR c (prApp c R0) n (if 1073741823 - (S.m 0 : Int) < ticks then prApp c R0 k (.he 0 0 2) ((S.w 1 S.m).note (startPoint wk 0 0 0 2)) else (S.w 1 S.m, some (popK .nodes (.ret (.st2 wk shard user ((S.m 0 : Int) + ticks) k))))) := by
  unfold startK
  rw [if_neg h]
  show iter c (prApp c R0) (n + 1) (some (.load ((0 : Nat) : Int) (.ret (.st1 wk ticks shard user k)))) S = _
  rw [it_load h0, app_ret, st1_w _ _ hx]
theorem start_range (h : ¬ (ticks < 0 ∨ user < 0 ∨ shard < 0 ∨ (c.workers : Int) ≤ shard)) (h0 : 0 < S.n) (hx : S.m 0 ≤ 1073741823) (hf : 1073741823 - (S.m 0 : Int) < ticks) (n : Nat) :
    iter c (prApp c R0) (n + 1) (some (startK c wk ticks shard user k)) S = iterR c (prApp c R0) n (prApp c R0 k (.he 0 0 2) ((S.w 1 S.m).note (startPoint wk 0 0 0 2))) := by
  rw [start_load h h0 hx, if_pos hf]
theorem start_empty (h : ¬ (ticks < 0 ∨ user < 0 ∨ shard < 0 ∨ (c.workers : Int) ≤ shard)) (hn : S.n = c.size) (hok : c.Ok) (hx : S.m 0 ≤ 1073741823) (hf : ¬ 1073741823 - (S.m 0 : Int) < ticks) (hs : Shop c S.m [] ft bx) (n : Nat) :
    iter c (prApp c R0) (n + 2) (some (startK c wk ticks shard user k)) S = iterR c (prApp c R0) n (prApp c R0 k (.he 0 0 3) ((S.w 2 S.m).note (startPoint wk 0 0 0 3))) := by
  have hsz := hok.size_le
  rw [start_load h (by omega) hx (n + 1), if_neg hf, iterR_some, it_pop_none (st := .nodes) (S := S.w 1 S.m) (by show 1 < S.n; omega) hs.nodes, app_ret, st2_no', St.w_w, St.w_m]
/-- A node is taken. -/
theorem start_node (h : ¬ (ticks < 0 ∨ user < 0 ∨ shard < 0 ∨ (c.workers : Int) ≤ shard)) (hn : S.n = c.size) (hok : c.Ok) (hx : S.m 0 ≤ 1073741823) (hf : ¬ 1073741823 - (S.m 0 : Int) < ticks) {x : Nat} (hs : Shop c S.m (x :: fn) ft bx) (n : Nat) :
    iter c (prApp c R0) (n + 5) (some (startK c wk ticks shard user k)) S =
      iterR c (prApp c R0) n (prApp c R0 (.st3 wk shard user ((S.m 0 : Int) + ticks) x k) (.w (S.m (c.nodesAt + 4 * x))) (S.w 5 (upd S.m 1 (turned (S.m 1) ((S.m (nlk c x) : Int) - 1))))) := by
  have hsz := hok.size_le
  have hxn : x < c.nodes := hs.nlt x (List.mem_cons_self ..)
  have hle := hs.nodes.2.head_le (n := c.nodes) fun y hy => hs.nlt y (List.mem_cons_of_mem _ hy)
  have n2 := hok.n2
  have n9 := hok.nodesAt_le
  have hl := nlk_lt hxn
  have hts : c.ticketsAt ≤ c.size := by unfold Cf.size Cf.connsAt; omega
  have e : upd S.m 1 (turned (S.m 1) ((S.m (nlk c x) : Int) - 1)) (c.nodesAt + 4 * x) = S.m (c.nodesAt + 4 * x) := upd_other _ _ (by omega)
  rw [start_load h (by omega) hx (n + 4), if_neg hf, iterR_some, show n + 4 = (n + 1) + 3 from rfl,
    it_pop (st := .nodes) (S := S.w 1 S.m) (f := x) (l := nlk c x) (by show 1 < S.n; omega) hs.nodes.1 (nodeLink_at c x hxn) (by show nlk c x < S.n; omega) (by show S.m (nlk c x) ≤ _; omega),
    app_ret, st2_yes', iterR_some, state_at c x hxn, it_load (by show c.nodesAt + 4 * x < S.n; unfold nlk at hl; omega), app_ret]
  simp only [St.w_w, St.w_m, Stk.headN]
  rw [e]
theorem start_gone (h : ¬ (ticks < 0 ∨ user < 0 ∨ shard < 0 ∨ (c.workers : Int) ≤ shard)) (hn : S.n = c.size) (hok : c.Ok) (hx : S.m 0 ≤ 1073741823) (hf : ¬ 1073741823 - (S.m 0 : Int) < ticks) {x : Nat} (hs : Shop c S.m (x :: fn) ft bx)
    (hg : part (S.m (c.nodesAt + 4 * x)) 32 32 = 4294967295) (n : Nat) :
    iter c (prApp c R0) (n + 5) (some (startK c wk ticks shard user k)) S = iterR c (prApp c R0) n (prApp c R0 k (.he 0 0 5) ((S.w 5 (upd S.m 1 (turned (S.m 1) ((S.m (nlk c x) : Int) - 1)))).note (startPoint wk 0 0 0 5))) := by
  rw [start_node h hn hok hx hf hs, st3_gone _ _ _ _ hg]
/-- There is no ticket: the node is put back. -/
theorem start_full (h : ¬ (ticks < 0 ∨ user < 0 ∨ shard < 0 ∨ (c.workers : Int) ≤ shard)) (hn : S.n = c.size) (hok : c.Ok) (hx : S.m 0 ≤ 1073741823) (hf : ¬ 1073741823 - (S.m 0 : Int) < ticks) {x : Nat} (hs : Shop c S.m (x :: fn) [] bx)
    (hg : ¬ part (S.m (c.nodesAt + 4 * x)) 32 32 = 4294967295) : ∃ m', (∀ n, iter c (prApp c R0) (n + 9) (some (startK c wk ticks shard user k)) S = iterR c (prApp c R0) n (prApp c R0 k (.he 0 0 3) ((S.w 9 m').note (startPoint wk 0 0 0 3)))) ∧
      Shop c m' (x :: fn) [] bx ∧ ∀ j, j ≠ 1 → j ≠ nlk c x → m' j = S.m j := by
  have hsz := hok.size_le
  have hxn : x < c.nodes := hs.nlt x (List.mem_cons_self ..)
  have n9 := hok.nodesAt_le
  have hl := nlk_lt hxn
  have hts : c.ticketsAt ≤ c.size := by unfold Cf.size Cf.connsAt; omega
  have hs1 := hs.popNode hok
  have e1 : ∀ j, j ≠ 1 → upd S.m 1 (turned (S.m 1) ((S.m (nlk c x) : Int) - 1)) j = S.m j := fun j hj => upd_other _ _ hj
  have hnode := fun n => start_node (wk := wk) (k := k) (R0 := R0) h hn hok hx hf hs (n + 4)
  generalize hm1 : upd S.m 1 (turned (S.m 1) ((S.m (nlk c x) : Int) - 1)) = m1 at *
  refine ⟨upd (upd m1 (nlk c x) (part (m1 1) 0 32)) 1 (turned (m1 1) x), fun n => ?_, hs1.pushNode hok hxn (List.nodup_cons.1 hs.nnd).1, fun j a b => by rw [upd_other _ _ a, upd_other _ _ b]; exact e1 j a⟩
  rw [show n + 9 = (n + 4) + 5 from rfl, hnode, st3_yes' _ _ _ _ hg, iterR_some, show n + 4 = (n + 3) + 1 from rfl, it_pop_none (st := .tickets) (S := S.w 5 m1) (by show 2 < S.n; omega) hs1.tickets, app_ret, st4_no', iterR_some,
    it_push (st := .nodes) (cf := c) (i := (x : Int)) (l := nlk c x) (by show 1 < S.n; omega) (nodeLink_at c x hxn) (by show nlk c x < S.n; omega) (by show nlk c x ≠ 1; omega), app_ret, st5_u]
  simp only [St.w_w, St.w_m, St.w_note, St.note_m, Stk.headN]
/-- What a Start that succeeds leaves. -/
structure Started (c : Cf) (m m' : Nat → Nat) (x t s : Nat) (gen deadline user : Int) : Prop where
  state : m' (c.nodesAt + 4 * x) = stateWord gen deadline 1
  user : m' (c.nodesAt + 4 * x + 2) = toU user
  key : m' (c.ticketsAt + 3 * t) = keyWord gen 0 x
  time : m' (c.ticketsAt + 3 * t + 1) = toU (upI deadline c.slack)
  rest : ∀ j, j ≠ 1 → j ≠ 2 → j ≠ inb c s → j ≠ c.nodesAt + 4 * x → j ≠ c.nodesAt + 4 * x + 2 → j ≠ c.ticketsAt + 3 * t → j ≠ c.ticketsAt + 3 * t + 1 → (∀ y, y < c.tickets → j ≠ tlk c y) → m' j = m j
/-- What is written when a node and a ticket are taken. -/
def armM (c : Cf) (m : Nat → Nat) (x t : Nat) (gen deadline user : Int) : Nat → Nat :=
  upd (upd (upd (upd m (c.ticketsAt + 3 * t) (keyWord gen 0 x)) (c.ticketsAt + 3 * t + 1) (toU (upI deadline c.slack))) (c.nodesAt + 4 * x + 2) (toU user)) (c.nodesAt + 4 * x) (stateWord gen deadline 1)
theorem armM_rest {c : Cf} {m : Nat → Nat} {x t : Nat} {gen deadline user : Int} (j : Nat) (a : j ≠ c.ticketsAt + 3 * t) (b : j ≠ c.ticketsAt + 3 * t + 1) (d : j ≠ c.nodesAt + 4 * x + 2) (e : j ≠ c.nodesAt + 4 * x) : armM c m x t gen deadline user j = m j := by
  unfold armM; rw [upd_other _ _ e, upd_other _ _ d, upd_other _ _ b, upd_other _ _ a]
theorem armM_state {c : Cf} {m : Nat → Nat} {x t : Nat} {gen deadline user : Int} : armM c m x t gen deadline user (c.nodesAt + 4 * x) = stateWord gen deadline 1 := upd_same _ _ _
theorem armM_user {c : Cf} {m : Nat → Nat} {x t : Nat} {gen deadline user : Int} : armM c m x t gen deadline user (c.nodesAt + 4 * x + 2) = toU user := by
  unfold armM; rw [upd_other _ _ (by omega)]; exact upd_same _ _ _
theorem armM_key {c : Cf} {m : Nat → Nat} {x t : Nat} {gen deadline user : Int} (hx : c.nodesAt + 4 * x + 3 < c.ticketsAt) : armM c m x t gen deadline user (c.ticketsAt + 3 * t) = keyWord gen 0 x := by
  unfold armM; rw [upd_other _ _ (by omega), upd_other _ _ (by omega), upd_other _ _ (by omega)]; exact upd_same _ _ _
theorem armM_time {c : Cf} {m : Nat → Nat} {x t : Nat} {gen deadline user : Int} (hx : c.nodesAt + 4 * x + 3 < c.ticketsAt) : armM c m x t gen deadline user (c.ticketsAt + 3 * t + 1) = toU (upI deadline c.slack) := by
  unfold armM; rw [upd_other _ _ (by omega), upd_other _ _ (by omega)]; exact upd_same _ _ _
theorem Shop.arm {c : Cf} {m : Nat → Nat} {fn ft : List Nat} {bx : Nat → List Nat} {x t : Nat} {gen deadline user : Int} (hok : c.Ok) (h : Shop c m fn ft bx) (hx : x < c.nodes) (ht : ∀ s, s < c.workers → t ∉ bx s) : Shop c (armM c m x t gen deadline user) fn ft bx := by
  have n9 := hok.nodesAt_le
  have hnt := nodes_tickets c
  have hxt : c.nodesAt + 4 * x + 3 < c.ticketsAt := (nlk_lt hx).1
  refine h.same ?_ ?_ ?_ ?_ n9.1
  · intro j hj1 hj
    exact armM_rest j (by omega) (by omega) (by omega) (by omega)
  · intro y hy
    have := nlk_lt hy
    exact armM_rest _ (by omega) (by omega) (by unfold nlk; omega) (by unfold nlk; omega)
  · intro y hy
    have := tlk_lt hy
    exact armM_rest _ (by unfold tlk; omega) (by unfold tlk; omega) (by omega) (by omega)
  · intro s' hs' y hy
    have hne : y ≠ t := fun e => ht s' hs' (e ▸ hy)
    exact armM_rest _ (by omega) (by omega) (by omega) (by omega)
theorem start_ok {s : Nat} (hsh : shard = (s : Int)) (hsw : s < c.workers) (h : ¬ (ticks < 0 ∨ user < 0 ∨ shard < 0 ∨ (c.workers : Int) ≤ shard)) (hn : S.n = c.size) (hok : c.Ok) (hx : S.m 0 ≤ 1073741823) (hf : ¬ 1073741823 - (S.m 0 : Int) < ticks) {x t : Nat} (hs : Shop c S.m (x :: fn) (t :: ft) bx)
    {gn : Nat} (hgn : part (S.m (c.nodesAt + 4 * x)) 32 32 = gn) (hg : ¬ gn = 4294967295) : ∃ d m' ms, (∀ n, iter c (prApp c R0) (n + d) (some (startK c wk ticks shard user k)) S = iterR c (prApp c R0) n (prApp c R0 k (.he x ((gn : Int) + 1) 0) ((S.w d m').note (startPoint wk x ((gn : Int) + 1) ((S.m 0 : Int) + ticks) 0)))) ∧
      d ≤ 8 * ((bx s).takeWhile (deadM c ms)).length + 17 ∧ 1 ≤ d ∧
      Shop c m' fn (((bx s).takeWhile (deadM c ms)).reverse ++ ft) (setB bx s (t :: (bx s).dropWhile (deadM c ms))) ∧ Started c S.m m' x t s ((gn : Int) + 1) ((S.m 0 : Int) + ticks) user ∧
      (∀ j, j ≠ 1 → j ≠ 2 → j ≠ c.nodesAt + 4 * x → j ≠ c.nodesAt + 4 * x + 2 → j ≠ c.ticketsAt + 3 * t → j ≠ c.ticketsAt + 3 * t + 1 → ms j = S.m j) ∧ ms (c.nodesAt + 4 * x) = stateWord ((gn : Int) + 1) ((S.m 0 : Int) + ticks) 1 := by
  have hsz := hok.size_le
  have hxn : x < c.nodes := hs.nlt x (List.mem_cons_self ..)
  have htn : t < c.tickets := hs.tlt t (List.mem_cons_self ..)
  have n9 := hok.nodesAt_le
  have n2 := hok.n2
  have t2 := hok.t2
  have hl := nlk_lt hxn
  have htl := tlk_lt htn
  have hts : c.ticketsAt ≤ c.size := by unfold Cf.size Cf.connsAt; omega
  have hnt := nodes_tickets c
  have hs1 := hs.popNode hok
  have e1 : ∀ j, j ≠ 1 → upd S.m 1 (turned (S.m 1) ((S.m (nlk c x) : Int) - 1)) j = S.m j := fun j hj => upd_other _ _ hj
  have hnode := fun n => start_node (wk := wk) (k := k) (R0 := R0) h hn hok hx hf hs (n + 7)
  generalize hm1 : upd S.m 1 (turned (S.m 1) ((S.m (nlk c x) : Int) - 1)) = m1 at *
  have hs2 := hs1.popTicket hok
  have hle := hs1.tickets.2.head_le (n := c.tickets) fun y hy => hs1.tlt y (List.mem_cons_of_mem _ hy)
  have e2 : ∀ j, j ≠ 2 → upd m1 2 (turned (m1 2) ((m1 (tlk c t) : Int) - 1)) j = m1 j := fun j hj => upd_other _ _ hj
  have hpop := fun n => it_pop (R := prApp c R0) (cf := c) (c := .ret (.st4 wk shard user ((S.m 0 : Int) + ticks) x ((gn : Int) + 1) k)) (S := S.w 5 m1) (st := .tickets) (f := t) (l := tlk c t) (n := n) (by show 2 < S.n; omega) hs1.tickets.1 (ticketLink_at c t htn) (by show tlk c t < S.n; omega) (by show m1 (tlk c t) ≤ _; omega)
  simp only [St.w_w, St.w_m, Stk.headN] at hpop
  generalize hm2 : upd m1 2 (turned (m1 2) ((m1 (tlk c t) : Int) - 1)) = m2 at *
  have hgl : gn < 4294967296 := by rw [← hgn]; exact Nat.mod_lt _ (by decide)
  have hg' : ¬ part (S.m (c.nodesAt + 4 * x)) 32 32 = 4294967295 := by rw [hgn]; exact hg
  have hxt : c.nodesAt + 4 * x + 3 < c.ticketsAt := hl.1
  have hs3 : Shop c (armM c m2 x t ((gn : Int) + 1) ((S.m 0 : Int) + ticks) user) fn ft bx := hs2.arm hok hxn (fun s' hs' => hs1.tb s' hs' t (List.mem_cons_self ..))
  have hrun : ∀ n, iter c (prApp c R0) (n + 12) (some (startK c wk ticks shard user k)) S = iter c (prApp c R0) n (some (putK c s t (.st9 x ((gn : Int) + 1) k))) ((S.note (startPoint wk x ((gn : Int) + 1) ((S.m 0 : Int) + ticks) 0)).w 12 (armM c m2 x t ((gn : Int) + 1) ((S.m 0 : Int) + ticks) user)) := by
    intro n
    rw [show n + 12 = (n + 7) + 5 from rfl, hnode, st3_yes' _ _ _ _ hg', iterR_some, hgn, show n + 7 = (n + 4) + 3 from rfl, hpop, app_ret, st4_yes', iterR_some, show n + 4 = (n + 2) + 2 from rfl,
      it_write (k := c.ticketsAt + 3 * t) (t0 := c.ticketsAt + 3 * t + 1) (ticket_at c t htn 0) (ticket_at c t htn 1) (by show _ < S.n; unfold tlk at htl; omega) (by show _ < S.n; unfold tlk at htl; omega), app_ret, st6_u, iterR_some,
      show c.user (x : Int) = ((c.nodesAt + 4 * x + 2 : Nat) : Int) from node_at c x hxn 2, it_store (by show _ < S.n; omega), app_ret, st7_u, iterR_some, state_at c x hxn, it_store (by show _ < S.n; omega), app_ret, st8_u, iterR_some, hsh]
    simp only [St.w_w, St.w_m, St.w_note, St.note_m]
    rfl
  have hms := @armM_state c m2 x t ((gn : Int) + 1) ((S.m 0 : Int) + ticks) user
  have hmu := @armM_user c m2 x t ((gn : Int) + 1) ((S.m 0 : Int) + ticks) user
  have hmk := @armM_key c m2 x t ((gn : Int) + 1) ((S.m 0 : Int) + ticks) user hxt
  have hmt := @armM_time c m2 x t ((gn : Int) + 1) ((S.m 0 : Int) + ticks) user hxt
  have f3 := fun j a b d e => @armM_rest c m2 x t ((gn : Int) + 1) ((S.m 0 : Int) + ticks) user j a b d e
  generalize armM c m2 x t ((gn : Int) + 1) ((S.m 0 : Int) + ticks) user = m3 at *
  obtain ⟨d, m', hi, hd, hsp, hfr⟩ := put_alone (R0 := R0) hok hsw htn (fn := fn) (bx s) (S := (S.note (startPoint wk x ((gn : Int) + 1) ((S.m 0 : Int) + ticks) 0)).w 12 m3) (ft := ft) (bx := bx) rfl hn hs3 (List.nodup_cons.1 hs1.tnd).1 (fun s' hs' => hs1.tb s' hs' t (List.mem_cons_self ..)) (by
    show part (m3 _) 0 16 < _
    rw [hmk]
    have := (key_parts3 (gn + 1) 0 x (by omega) (by omega) (by omega)).2.2
    rw [Int.natCast_add] at this
    have e : part (keyWord ((gn : Int) + 1) 0 x) 0 16 = x := this
    rw [e]; exact hxn)
  have hib := inb_bd hsw
  refine ⟨12 + d, m', m3, ?_, ?_, by omega, hsp, ⟨?_, ?_, ?_, ?_, ?_⟩, ?_, hms⟩
  · intro n
    rw [show n + (12 + d) = (n + d) + 12 by omega, hrun, hi, st9_u]
    simp only [St.w_w, St.w_note]
  · have hd' : d ≤ 8 * ((bx s).takeWhile (deadM c m3)).length + 5 := hd
    omega
  · exact (hfr _ (by omega) (by omega) (fun y hy => by have := tlk_lt hy; omega)).trans hms
  · exact (hfr _ (by omega) (by omega) (fun y hy => by have := tlk_lt hy; omega)).trans hmu
  · exact (hfr _ (by omega) (by omega) (fun y hy => by unfold tlk; omega)).trans hmk
  · exact (hfr _ (by omega) (by omega) (fun y hy => by unfold tlk; omega)).trans hmt
  · intro j j1 j2 j3 j4 j5 j6 j7 j8
    rw [hfr j j3 j2 j8]
    show m3 j = S.m j
    rw [f3 j j6 j7 j5 j4, e2 j j2, e1 j j1]
  · intro j j1 j2 j4 j5 j6 j7
    rw [f3 j j6 j7 j5 j4, e2 j j2, e1 j j1]
end
end Go.Proofs.YtgemjjpmoejgdaaGreat
/- A Cancel, a Rearm, a Migrate that is done alone. -/
namespace Go.Proofs.YtgemjjpmoejgdaaGreat
open Go.RowKit
set_option maxRecDepth 100000
set_option linter.unusedVariables false

/-- A ticket's key and time are written. -/
def wrM (c : Cf) (m : Nat → Nat) (t kw tm : Nat) : Nat → Nat := upd (upd m (c.ticketsAt + 3 * t) kw) (c.ticketsAt + 3 * t + 1) tm
theorem wrM_key {c : Cf} {m : Nat → Nat} {t kw tm : Nat} : wrM c m t kw tm (c.ticketsAt + 3 * t) = kw := by unfold wrM; rw [upd_other _ _ (by omega)]; exact upd_same _ _ _
theorem wrM_time {c : Cf} {m : Nat → Nat} {t kw tm : Nat} : wrM c m t kw tm (c.ticketsAt + 3 * t + 1) = tm := upd_same _ _ _
theorem wrM_rest {c : Cf} {m : Nat → Nat} {t kw tm : Nat} (j : Nat) (a : j ≠ c.ticketsAt + 3 * t) (b : j ≠ c.ticketsAt + 3 * t + 1) : wrM c m t kw tm j = m j := by unfold wrM; rw [upd_other _ _ b, upd_other _ _ a]
theorem Shop.write {c : Cf} {m : Nat → Nat} {fn ft : List Nat} {bx : Nat → List Nat} {t kw tm : Nat} (hok : c.Ok) (h : Shop c m fn ft bx) (ht : ∀ s, s < c.workers → t ∉ bx s) : Shop c (wrM c m t kw tm) fn ft bx := by
  have n9 := hok.nodesAt_le
  have hnt := nodes_tickets c
  refine h.same ?_ ?_ ?_ ?_ n9.1
  · intro j _ hj
    exact wrM_rest j (by omega) (by omega)
  · intro y hy
    have := nlk_lt hy
    exact wrM_rest _ (by omega) (by omega)
  · intro y hy
    exact wrM_rest _ (by unfold tlk; omega) (by unfold tlk; omega)
  · intro s' hs' y hy
    have hne : y ≠ t := fun e => ht s' hs' (e ▸ hy)
    exact wrM_rest _ (by omega) (by omega)
/-- A node's cell that is no link is turned. -/
theorem Shop.node {c : Cf} {m : Nat → Nat} {fn ft : List Nat} {bx : Nat → List Nat} {x j v : Nat} (hok : c.Ok) (h : Shop c m fn ft bx) (hx : x < c.nodes) (hj : j < 3) : Shop c (upd m (c.nodesAt + 4 * x + j) v) fn ft bx := by
  have n9 := hok.nodesAt_le
  have hnt : c.ticketsAt = c.nodesAt + 4 * c.nodes := rfl
  refine h.same ?_ ?_ ?_ ?_ n9.1
  · intro i _ hi
    exact upd_other _ _ (by omega)
  · intro y hy
    exact upd_other _ _ (by unfold nlk; omega)
  · intro y hy
    exact upd_other _ _ (by unfold tlk; omega)
  · intro s' hs' y hy
    exact upd_other _ _ (by omega)

section
variable {ρ : Type} {R0 : ρ → Arg → St → St × Option (K (PR ρ))} {c : Cf} {k : PR ρ} {S : St} {fn ft : List Nat} {bx : Nat → List Nat}
theorem cn0_u (w n g : Int) (T : St) : prApp c R0 (.cn0 w n g k) .u T = prApp c R0 k (.b false) (T.note (cancelPoint w n g false)) := by rw [prApp]
theorem cn1_yes' (w n g : Int) (x : Nat) (T : St) (h : armedW x g = true) : prApp c R0 (.cn1 w n g k) (.w x) T = (T, some (.cas (c.state n) x (stateWord (part x 32 32 : Nat) (part x 2 30 : Nat) 3) (.ret (.cn2 w n g k)))) := by rw [prApp, if_pos h]
theorem cn1_no' (w n g : Int) (x : Nat) (T : St) (h : armedW x g = false) : prApp c R0 (.cn1 w n g k) (.w x) T = prApp c R0 k (.b false) (T.note (cancelPoint w n g false)) := by rw [prApp, if_neg (by rw [h]; decide)]
theorem cn2_yes' (w n g : Int) (T : St) : prApp c R0 (.cn2 w n g k) (.b true) T = (T.note (cancelPoint w n g true), some (pushK .nodes n (.ret (.cn3 k)))) := by rw [prApp, if_pos rfl]
theorem cn3_u (T : St) : prApp c R0 (.cn3 k) .u T = prApp c R0 k (.b true) T := by rw [prApp]
theorem ra0_u (w n g er : Int) (T : St) : prApp c R0 (.ra0 w n g er k) .u T = prApp c R0 k (.he 0 0 er) (T.note (rearmPoint w n g 0 0 0 er)) := by rw [prApp]
theorem ra1_far (w n g ticks : Int) (x : Nat) (T : St) (hx : x ≤ 1073741823) (h : 1073741823 - (x : Int) < ticks) : prApp c R0 (.ra1 w n g ticks k) (.w x) T = prApp c R0 k (.he 0 0 2) (T.note (rearmPoint w n g 0 0 0 2)) := by
  rw [prApp, if_neg (by omega), toI_clock hx, if_pos h]
theorem ra1_near (w n g ticks : Int) (x : Nat) (T : St) (hx : x ≤ 1073741823) (h : ¬ 1073741823 - (x : Int) < ticks) : prApp c R0 (.ra1 w n g ticks k) (.w x) T = (T, some (.load (c.state n) (.ret (.ra2 w n g ((x : Int) + ticks) k)))) := by
  rw [prApp, if_neg (by omega), toI_clock hx, if_neg h]
theorem ra2_no' (w n g dl : Int) (x : Nat) (T : St) (h : armedW x g = false) : prApp c R0 (.ra2 w n g dl k) (.w x) T = prApp c R0 k (.he 0 0 4) (T.note (rearmPoint w n g 0 0 0 4)) := by rw [prApp, if_neg (by rw [h]; decide)]
theorem ra2_gone' (w n g dl : Int) (x : Nat) (T : St) (h : armedW x g = true) (hg : g = 4294967295) : prApp c R0 (.ra2 w n g dl k) (.w x) T = prApp c R0 k (.he 0 0 5) (T.note (rearmPoint w n g 0 0 0 5)) := by rw [prApp, if_pos h, if_pos hg]
theorem ra2_yes' (w n g dl : Int) (x : Nat) (T : St) (h : armedW x g = true) (hg : ¬ g = 4294967295) : prApp c R0 (.ra2 w n g dl k) (.w x) T = (T, some (popK .tickets (.ret (.ra3 w n g x dl k)))) := by rw [prApp, if_pos h, if_neg hg]
theorem ra3_yes' (w n g dl t : Int) (x : Nat) (T : St) : prApp c R0 (.ra3 w n g x dl k) (.pop t true) T = (T, some (writeK c t (g + 1) 0 n dl (.ret (.ra4 w n g x t dl k)))) := by rw [prApp, if_pos rfl]
theorem ra3_no' (w n g dl t : Int) (x : Nat) (T : St) : prApp c R0 (.ra3 w n g x dl k) (.pop t false) T = prApp c R0 k (.he 0 0 3) (T.note (rearmPoint w n g 0 0 0 3)) := by rw [prApp, if_neg (by decide)]
theorem ra4_u (w n g dl t : Int) (x : Nat) (T : St) : prApp c R0 (.ra4 w n g x t dl k) .u T = (T, some (.cas (c.state n) x (stateWord (g + 1) dl 1) (.ret (.ra5 w n g t dl k)))) := by rw [prApp]
theorem ra5_yes' (w n g dl t : Int) (T : St) : prApp c R0 (.ra5 w n g t dl k) (.b true) T = (T.note (rearmPoint w n g n (g + 1) dl 0), some (putK c w t (.ra6 n (g + 1) k))) := by rw [prApp, if_pos rfl]
theorem ra6_u (n g : Int) (T : St) : prApp c R0 (.ra6 n g k) .u T = prApp c R0 k (.he n g 0) T := by rw [prApp]
theorem mg0_u (w n g er : Int) (T : St) : prApp c R0 (.mg0 w n g er k) .u T = prApp c R0 k (.e er) (T.note (migratePoint w n g er)) := by rw [prApp]
theorem mg1_yes' (w n g s : Int) (x : Nat) (T : St) (h : armedW x g = true) : prApp c R0 (.mg1 w n g s k) (.w x) T = (T, some (.load (c.home n) (.ret (.mg2 w n g s k)))) := by rw [prApp, if_pos h]
theorem mg1_no' (w n g s : Int) (x : Nat) (T : St) (h : armedW x g = false) : prApp c R0 (.mg1 w n g s k) (.w x) T = prApp c R0 k (.e 4) (T.note (migratePoint w n g 4)) := by rw [prApp, if_neg (by rw [h]; decide)]
theorem mg2_gone (w n g s : Int) (x : Nat) (T : St) (h : homeV x g = 65535) : prApp c R0 (.mg2 w n g s k) (.w x) T = prApp c R0 k (.e 5) (T.note (migratePoint w n g 5)) := by rw [prApp, if_pos h]
theorem mg2_yes' (w n g s : Int) (x : Nat) (T : St) (h : ¬ homeV x g = 65535) : prApp c R0 (.mg2 w n g s k) (.w x) T = (T, some (popK .tickets (.ret (.mg3 w n g s x (homeV x g + 1) k)))) := by rw [prApp, if_neg h]
theorem mg3_yes' (w n g s v t : Int) (x : Nat) (T : St) : prApp c R0 (.mg3 w n g s x v k) (.pop t true) T = (T, some (.load (c.state n) (.ret (.mg4 w n g s x v t k)))) := by rw [prApp, if_pos rfl]
theorem mg3_no' (w n g s v t : Int) (x : Nat) (T : St) : prApp c R0 (.mg3 w n g s x v k) (.pop t false) T = prApp c R0 k (.e 3) (T.note (migratePoint w n g 3)) := by rw [prApp, if_neg (by decide)]
theorem mg4_yes' (w n g s v t : Int) (x y : Nat) (T : St) (h : armedW y g = true) : prApp c R0 (.mg4 w n g s x v t k) (.w y) T = (T.note (migratePoint w n g 0), some (writeK c t g v n (part y 2 30 : Nat) (.ret (.mg6 n g s x v t k)))) := by rw [prApp, if_pos h]
theorem mg6_u (n g s v t : Int) (x : Nat) (T : St) : prApp c R0 (.mg6 n g s x v t k) .u T = (T, some (putK c s t (.mg7 n g s x v k))) := by rw [prApp]
theorem mg7_u (n g s v : Int) (x : Nat) (T : St) : prApp c R0 (.mg7 n g s x v k) .u T = (T, some (.cas (c.home n) x (homeWord g v s) (.ret (.mg8 k)))) := by rw [prApp]
theorem mg8_b (b : Bool) (T : St) : prApp c R0 (.mg8 k) (.b b) T = prApp c R0 k (.e 0) T := by rw [prApp]

theorem cancel_stale {w n g : Int} (h : c.state n < 0) (i : Nat) : iter c (prApp c R0) (i + 1) (some (cancelK c w n g k)) S = iterR c (prApp c R0) i (prApp c R0 k (.b false) (S.note (cancelPoint w n g false))) := by
  unfold cancelK
  rw [if_pos h, it_idle, app_ret, cn0_u]
theorem state_nat {x : Nat} (hx : x < c.nodes) : ¬ c.state (x : Int) < 0 := by rw [state_at c x hx]; omega
theorem cancel_no {w g : Int} {x : Nat} (hx : x < c.nodes) (hn : S.n = c.size) (h : armedW (S.m (c.nodesAt + 4 * x)) g = false) (i : Nat) : iter c (prApp c R0) (i + 1) (some (cancelK c w x g k)) S = iterR c (prApp c R0) i (prApp c R0 k (.b false) ((S.w 1 S.m).note (cancelPoint w x g false))) := by
  have hl := nlk_lt hx
  have hts : c.ticketsAt ≤ c.size := by unfold Cf.size Cf.connsAt; omega
  unfold cancelK
  rw [if_neg (state_nat hx), state_at c x hx, it_load (by unfold nlk at hl; omega), app_ret, cn1_no' _ _ _ _ _ h]
theorem cancel_yes {w g : Int} {x : Nat} (hok : c.Ok) (hx : x < c.nodes) (hn : S.n = c.size) (h : armedW (S.m (c.nodesAt + 4 * x)) g = true) (hs : Shop c S.m fn ft bx) (hf : x ∉ fn) :
    ∃ m', (∀ i, iter c (prApp c R0) (i + 5) (some (cancelK c w x g k)) S = iterR c (prApp c R0) i (prApp c R0 k (.b true) ((S.w 5 m').note (cancelPoint w x g true)))) ∧ Shop c m' (x :: fn) ft bx ∧
      m' (c.nodesAt + 4 * x) = stateWord (part (S.m (c.nodesAt + 4 * x)) 32 32 : Nat) (part (S.m (c.nodesAt + 4 * x)) 2 30 : Nat) 3 ∧ ∀ j, j ≠ 1 → j ≠ nlk c x → j ≠ c.nodesAt + 4 * x → m' j = S.m j := by
  have hl := nlk_lt hx
  have n9 := hok.nodesAt_le
  have hts : c.ticketsAt ≤ c.size := by unfold Cf.size Cf.connsAt; omega
  have hnode := hs.node (x := x) (j := 0) (v := stateWord (part (S.m (c.nodesAt + 4 * x)) 32 32 : Nat) (part (S.m (c.nodesAt + 4 * x)) 2 30 : Nat) 3) hok hx (by decide)
  rw [Nat.add_zero] at hnode
  have hms : upd S.m (c.nodesAt + 4 * x) (stateWord (part (S.m (c.nodesAt + 4 * x)) 32 32 : Nat) (part (S.m (c.nodesAt + 4 * x)) 2 30 : Nat) 3) (c.nodesAt + 4 * x) = stateWord (part (S.m (c.nodesAt + 4 * x)) 32 32 : Nat) (part (S.m (c.nodesAt + 4 * x)) 2 30 : Nat) 3 := upd_same _ _ _
  have hmr : ∀ j, j ≠ c.nodesAt + 4 * x → upd S.m (c.nodesAt + 4 * x) (stateWord (part (S.m (c.nodesAt + 4 * x)) 32 32 : Nat) (part (S.m (c.nodesAt + 4 * x)) 2 30 : Nat) 3) j = S.m j := fun j hj => upd_other _ _ hj
  have hrun : ∀ i, iter c (prApp c R0) (i + 5) (some (cancelK c w x g k)) S = iter c (prApp c R0) (i + 3) (some (pushK .nodes x (.ret (.cn3 k)))) (((S.w 2 (upd S.m (c.nodesAt + 4 * x) (stateWord (part (S.m (c.nodesAt + 4 * x)) 32 32 : Nat) (part (S.m (c.nodesAt + 4 * x)) 2 30 : Nat) 3)))).note (cancelPoint w x g true)) := by
    intro i
    unfold cancelK
    rw [if_neg (state_nat hx), state_at c x hx, show i + 5 = (i + 4) + 1 from rfl, it_load (by unfold nlk at hl; omega), app_ret, cn1_yes' _ _ _ _ _ h, iterR_some, state_at c x hx, show i + 4 = (i + 3) + 1 from rfl, it_cas (S := S.w 1 S.m) (i := c.nodesAt + 4 * x) (old := S.m (c.nodesAt + 4 * x)) (by show _ < S.n; unfold nlk at hl; omega) rfl, app_ret, cn2_yes', iterR_some]
    simp only [St.w_w, St.w_m]
  generalize upd S.m (c.nodesAt + 4 * x) (stateWord (part (S.m (c.nodesAt + 4 * x)) 32 32 : Nat) (part (S.m (c.nodesAt + 4 * x)) 2 30 : Nat) 3) = m1 at *
  refine ⟨upd (upd m1 (nlk c x) (part (m1 1) 0 32)) 1 (turned (m1 1) x), fun i => ?_, hnode.pushNode hok hx hf, ?_, fun j a b d => by rw [upd_other _ _ a, upd_other _ _ b]; exact hmr j d⟩
  · rw [hrun, it_push (st := .nodes) (cf := c) (i := (x : Int)) (l := nlk c x) (by show 1 < S.n; omega) (nodeLink_at c x hx) (by show nlk c x < S.n; omega) (by show nlk c x ≠ 1; omega), app_ret, cn3_u]
    simp only [St.w_w, St.w_m, St.w_note, St.note_m, Stk.headN]
  · rw [upd_other _ _ (by omega), upd_other _ _ (by unfold nlk; omega)]
    exact hms

theorem rearm_arg {w n g ticks : Int} (h : ticks < 0) (i : Nat) : iter c (prApp c R0) (i + 1) (some (rearmK c w n g ticks k)) S = iterR c (prApp c R0) i (prApp c R0 k (.he 0 0 1) (S.note (rearmPoint w n g 0 0 0 1))) := by
  unfold rearmK
  rw [if_pos h, it_idle, app_ret, ra0_u]
theorem rearm_stale {w n g ticks : Int} (h : ¬ ticks < 0) (h2 : c.state n < 0) (i : Nat) : iter c (prApp c R0) (i + 1) (some (rearmK c w n g ticks k)) S = iterR c (prApp c R0) i (prApp c R0 k (.he 0 0 4) (S.note (rearmPoint w n g 0 0 0 4))) := by
  unfold rearmK
  rw [if_neg h, if_pos h2, it_idle, app_ret, ra0_u]
theorem rearm_load {w g ticks : Int} {x : Nat} (h : ¬ ticks < 0) (hx : x < c.nodes) (h0 : 0 < S.n) (i : Nat) : iter c (prApp c R0) (i + 1) (some (rearmK c w x g ticks k)) S = iterR c (prApp c R0) i (prApp c R0 (.ra1 w x g ticks k) (.w (S.m 0)) (S.w 1 S.m)) := by
  unfold rearmK
  rw [if_neg h, if_neg (state_nat hx)]
  show iter c (prApp c R0) (i + 1) (some (.load ((0 : Nat) : Int) (.ret (.ra1 w x g ticks k)))) S = _
  rw [it_load h0, app_ret]
theorem rearm_range {w g ticks : Int} {x : Nat} (h : ¬ ticks < 0) (hx : x < c.nodes) (h0 : 0 < S.n) (hc : S.m 0 ≤ 1073741823) (hf : 1073741823 - (S.m 0 : Int) < ticks) (i : Nat) :
    iter c (prApp c R0) (i + 1) (some (rearmK c w x g ticks k)) S = iterR c (prApp c R0) i (prApp c R0 k (.he 0 0 2) ((S.w 1 S.m).note (rearmPoint w x g 0 0 0 2))) := by
  rw [rearm_load h hx h0, ra1_far _ _ _ _ _ _ hc hf]
theorem rearm_look {w g ticks : Int} {x : Nat} (h : ¬ ticks < 0) (hx : x < c.nodes) (hok : c.Ok) (hn : S.n = c.size) (hc : S.m 0 ≤ 1073741823) (hf : ¬ 1073741823 - (S.m 0 : Int) < ticks) (i : Nat) :
    iter c (prApp c R0) (i + 2) (some (rearmK c w x g ticks k)) S = iterR c (prApp c R0) i (prApp c R0 (.ra2 w x g ((S.m 0 : Int) + ticks) k) (.w (S.m (c.nodesAt + 4 * x))) (S.w 2 S.m)) := by
  have hl := nlk_lt hx
  have hsz := hok.size_le
  have hts : c.ticketsAt ≤ c.size := by unfold Cf.size Cf.connsAt; omega
  rw [rearm_load h hx (by omega) (i + 1), ra1_near _ _ _ _ _ _ hc hf, iterR_some, state_at c x hx, it_load (by show _ < S.n; unfold nlk at hl; omega), app_ret]
  simp only [St.w_w, St.w_m]
theorem rearm_no {w g ticks : Int} {x : Nat} (h : ¬ ticks < 0) (hx : x < c.nodes) (hok : c.Ok) (hn : S.n = c.size) (hc : S.m 0 ≤ 1073741823) (hf : ¬ 1073741823 - (S.m 0 : Int) < ticks) (ha : armedW (S.m (c.nodesAt + 4 * x)) g = false) (i : Nat) :
    iter c (prApp c R0) (i + 2) (some (rearmK c w x g ticks k)) S = iterR c (prApp c R0) i (prApp c R0 k (.he 0 0 4) ((S.w 2 S.m).note (rearmPoint w x g 0 0 0 4))) := by
  rw [rearm_look h hx hok hn hc hf, ra2_no' _ _ _ _ _ _ ha]
theorem rearm_gone {w g ticks : Int} {x : Nat} (h : ¬ ticks < 0) (hx : x < c.nodes) (hok : c.Ok) (hn : S.n = c.size) (hc : S.m 0 ≤ 1073741823) (hf : ¬ 1073741823 - (S.m 0 : Int) < ticks) (ha : armedW (S.m (c.nodesAt + 4 * x)) g = true) (hg : g = 4294967295) (i : Nat) :
    iter c (prApp c R0) (i + 2) (some (rearmK c w x g ticks k)) S = iterR c (prApp c R0) i (prApp c R0 k (.he 0 0 5) ((S.w 2 S.m).note (rearmPoint w x g 0 0 0 5))) := by
  rw [rearm_look h hx hok hn hc hf, ra2_gone' _ _ _ _ _ _ ha hg]
theorem rearm_full {w g ticks : Int} {x : Nat} (h : ¬ ticks < 0) (hx : x < c.nodes) (hok : c.Ok) (hn : S.n = c.size) (hc : S.m 0 ≤ 1073741823) (hf : ¬ 1073741823 - (S.m 0 : Int) < ticks) (ha : armedW (S.m (c.nodesAt + 4 * x)) g = true) (hg : ¬ g = 4294967295) (hs : Shop c S.m fn [] bx) (i : Nat) :
    iter c (prApp c R0) (i + 3) (some (rearmK c w x g ticks k)) S = iterR c (prApp c R0) i (prApp c R0 k (.he 0 0 3) ((S.w 3 S.m).note (rearmPoint w x g 0 0 0 3))) := by
  have hsz := hok.size_le
  rw [show i + 3 = (i + 1) + 2 from rfl, rearm_look h hx hok hn hc hf, ra2_yes' _ _ _ _ _ _ ha hg, iterR_some, it_pop_none (st := .tickets) (S := S.w 2 S.m) (by show 2 < S.n; omega) hs.tickets, app_ret, ra3_no', St.w_w, St.w_m]
/-- What a Rearm or a Migrate that succeeds leaves: of the node's cells only that at j. -/
structure Turned (c : Cf) (m m' : Nat → Nat) (x t s j : Nat) (cw kw tm : Nat) : Prop where
  cell : m' (c.nodesAt + 4 * x + j) = cw
  key : m' (c.ticketsAt + 3 * t) = kw
  time : m' (c.ticketsAt + 3 * t + 1) = tm
  rest : ∀ i, i ≠ 2 → i ≠ inb c s → i ≠ c.nodesAt + 4 * x + j → i ≠ c.ticketsAt + 3 * t → i ≠ c.ticketsAt + 3 * t + 1 → (∀ y, y < c.tickets → i ≠ tlk c y) → m' i = m i
theorem armedW_eq {x : Nat} {g : Int} (h : armedW x g = true) : part x 0 2 = 1 ∧ ((part x 32 32 : Nat) : Int) = g := of_decide_eq_true h
theorem rearm_ok {s : Nat} {w g ticks : Int} {x t : Nat} (hsw : w = (s : Int)) (hsl : s < c.workers) (h : ¬ ticks < 0) (hx : x < c.nodes) (hok : c.Ok) (hn : S.n = c.size) (hc : S.m 0 ≤ 1073741823) (hf : ¬ 1073741823 - (S.m 0 : Int) < ticks) (ha : armedW (S.m (c.nodesAt + 4 * x)) g = true) (hg : ¬ g = 4294967295)
    (hs : Shop c S.m fn (t :: ft) bx) : ∃ d m' ms, (∀ i, iter c (prApp c R0) (i + d) (some (rearmK c w x g ticks k)) S = iterR c (prApp c R0) i (prApp c R0 k (.he x (g + 1) 0) ((S.w d m').note (rearmPoint w x g x (g + 1) ((S.m 0 : Int) + ticks) 0)))) ∧
      d ≤ 8 * ((bx s).takeWhile (deadM c ms)).length + 13 ∧ 1 ≤ d ∧ Shop c m' fn (((bx s).takeWhile (deadM c ms)).reverse ++ ft) (setB bx s (t :: (bx s).dropWhile (deadM c ms))) ∧
      Turned c S.m m' x t s 0 (stateWord (g + 1) ((S.m 0 : Int) + ticks) 1) (keyWord (g + 1) 0 x) (toU (upI ((S.m 0 : Int) + ticks) c.slack)) ∧
      (∀ j, j ≠ 2 → j ≠ c.nodesAt + 4 * x → j ≠ c.ticketsAt + 3 * t → j ≠ c.ticketsAt + 3 * t + 1 → ms j = S.m j) ∧ ms (c.nodesAt + 4 * x) = stateWord (g + 1) ((S.m 0 : Int) + ticks) 1 := by
  have hsz := hok.size_le
  have htn : t < c.tickets := hs.tlt t (List.mem_cons_self ..)
  have n9 := hok.nodesAt_le
  have n2 := hok.n2
  have t2 := hok.t2
  have hl := nlk_lt hx
  have htl := tlk_lt htn
  have hts : c.ticketsAt ≤ c.size := by unfold Cf.size Cf.connsAt; omega
  have hnt : c.ticketsAt = c.nodesAt + 4 * c.nodes := rfl
  have hgq := armedW_eq ha
  have hgl : part (S.m (c.nodesAt + 4 * x)) 32 32 < 4294967296 := Nat.mod_lt _ (by decide)
  obtain ⟨gn, rfl⟩ : ∃ gn : Nat, g = (gn : Int) := ⟨part (S.m (c.nodesAt + 4 * x)) 32 32, hgq.2.symm⟩
  have hs2 := hs.popTicket hok
  have hle := hs.tickets.2.head_le (n := c.tickets) fun y hy => hs.tlt y (List.mem_cons_of_mem _ hy)
  have e2 : ∀ j, j ≠ 2 → upd S.m 2 (turned (S.m 2) ((S.m (tlk c t) : Int) - 1)) j = S.m j := fun j hj => upd_other _ _ hj
  have hpop := fun n => it_pop (R := prApp c R0) (cf := c) (c := .ret (.ra3 w x gn (S.m (c.nodesAt + 4 * x)) ((S.m 0 : Int) + ticks) k)) (S := S.w 2 S.m) (st := .tickets) (f := t) (l := tlk c t) (n := n) (by show 2 < S.n; omega) hs.tickets.1 (ticketLink_at c t htn) (by show tlk c t < S.n; omega) (by show S.m (tlk c t) ≤ _; omega)
  simp only [St.w_w, St.w_m, Stk.headN] at hpop
  generalize hm2 : upd S.m 2 (turned (S.m 2) ((S.m (tlk c t) : Int) - 1)) = m2 at *
  have htb : ∀ s', s' < c.workers → t ∉ bx s' := fun s' hs' => hs.tb s' hs' t (List.mem_cons_self ..)
  have hs3 := (hs2.write (t := t) (kw := keyWord ((gn : Int) + 1) 0 x) (tm := toU (upI ((S.m 0 : Int) + ticks) c.slack)) hok htb).node (x := x) (j := 0) (v := stateWord ((gn : Int) + 1) ((S.m 0 : Int) + ticks) 1) hok hx (by decide)
  rw [Nat.add_zero] at hs3
  have hst : wrM c m2 t (keyWord ((gn : Int) + 1) 0 x) (toU (upI ((S.m 0 : Int) + ticks) c.slack)) (c.nodesAt + 4 * x) = S.m (c.nodesAt + 4 * x) := by rw [wrM_rest _ (by omega) (by omega), e2 _ (by omega)]
  have hrun : ∀ i, iter c (prApp c R0) (i + 8) (some (rearmK c w x gn ticks k)) S = iter c (prApp c R0) i (some (putK c s t (.ra6 x ((gn : Int) + 1) k))) ((S.note (rearmPoint w x gn x ((gn : Int) + 1) ((S.m 0 : Int) + ticks) 0)).w 8 (upd (wrM c m2 t (keyWord ((gn : Int) + 1) 0 x) (toU (upI ((S.m 0 : Int) + ticks) c.slack))) (c.nodesAt + 4 * x) (stateWord ((gn : Int) + 1) ((S.m 0 : Int) + ticks) 1))) := by
    intro i
    rw [show i + 8 = (i + 6) + 2 from rfl, rearm_look h hx hok hn hc hf, ra2_yes' _ _ _ _ _ _ ha hg, iterR_some, show i + 6 = (i + 3) + 3 from rfl, hpop, app_ret, ra3_yes', iterR_some, show i + 3 = (i + 1) + 2 from rfl,
      it_write (k := c.ticketsAt + 3 * t) (t0 := c.ticketsAt + 3 * t + 1) (ticket_at c t htn 0) (ticket_at c t htn 1) (by show _ < S.n; unfold tlk at htl; omega) (by show _ < S.n; unfold tlk at htl; omega), app_ret, ra4_u, iterR_some, state_at c x hx, it_cas (by show _ < S.n; omega) (by exact hst), app_ret, ra5_yes', iterR_some, hsw]
    simp only [St.w_w, St.w_m, St.w_note, St.note_m]
    rfl
  have f0 : upd (wrM c m2 t (keyWord ((gn : Int) + 1) 0 x) (toU (upI ((S.m 0 : Int) + ticks) c.slack))) (c.nodesAt + 4 * x) (stateWord ((gn : Int) + 1) ((S.m 0 : Int) + ticks) 1) (c.nodesAt + 4 * x) = stateWord ((gn : Int) + 1) ((S.m 0 : Int) + ticks) 1 := upd_same _ _ _
  have f1 : upd (wrM c m2 t (keyWord ((gn : Int) + 1) 0 x) (toU (upI ((S.m 0 : Int) + ticks) c.slack))) (c.nodesAt + 4 * x) (stateWord ((gn : Int) + 1) ((S.m 0 : Int) + ticks) 1) (c.ticketsAt + 3 * t) = keyWord ((gn : Int) + 1) 0 x := by rw [upd_other _ _ (by omega)]; exact wrM_key
  have f2 : upd (wrM c m2 t (keyWord ((gn : Int) + 1) 0 x) (toU (upI ((S.m 0 : Int) + ticks) c.slack))) (c.nodesAt + 4 * x) (stateWord ((gn : Int) + 1) ((S.m 0 : Int) + ticks) 1) (c.ticketsAt + 3 * t + 1) = toU (upI ((S.m 0 : Int) + ticks) c.slack) := by rw [upd_other _ _ (by omega)]; exact wrM_time
  have f3 : ∀ j, j ≠ c.nodesAt + 4 * x → j ≠ c.ticketsAt + 3 * t → j ≠ c.ticketsAt + 3 * t + 1 → upd (wrM c m2 t (keyWord ((gn : Int) + 1) 0 x) (toU (upI ((S.m 0 : Int) + ticks) c.slack))) (c.nodesAt + 4 * x) (stateWord ((gn : Int) + 1) ((S.m 0 : Int) + ticks) 1) j = m2 j := fun j a b d => by rw [upd_other _ _ a]; exact wrM_rest j b d
  generalize upd (wrM c m2 t (keyWord ((gn : Int) + 1) 0 x) (toU (upI ((S.m 0 : Int) + ticks) c.slack))) (c.nodesAt + 4 * x) (stateWord ((gn : Int) + 1) ((S.m 0 : Int) + ticks) 1) = m3 at *
  obtain ⟨d, m', hi, hd, hsp, hfr⟩ := put_alone (R0 := R0) hok hsl htn (fn := fn) (bx s) (S := (S.note (rearmPoint w x gn x ((gn : Int) + 1) ((S.m 0 : Int) + ticks) 0)).w 8 m3) (ft := ft) (bx := bx) rfl hn hs3 (List.nodup_cons.1 hs.tnd).1 htb (by
    show part (m3 _) 0 16 < _
    rw [f1]
    have := (key_parts3 (gn + 1) 0 x (by omega) (by omega) (by omega)).2.2
    rw [Int.natCast_add] at this
    have e : part (keyWord ((gn : Int) + 1) 0 x) 0 16 = x := this
    rw [e]; exact hx)
  have hib := inb_bd hsl
  refine ⟨8 + d, m', m3, ?_, ?_, by omega, hsp, ⟨?_, ?_, ?_, ?_⟩, ?_, f0⟩
  · intro i
    rw [show i + (8 + d) = (i + d) + 8 by omega, hrun, hi, ra6_u]
    simp only [St.w_w, St.w_note]
  · have hd' : d ≤ 8 * ((bx s).takeWhile (deadM c m3)).length + 5 := hd
    omega
  · exact (hfr _ (by omega) (by omega) (fun y hy => by have := tlk_lt hy; omega)).trans f0
  · exact (hfr _ (by omega) (by omega) (fun y hy => by unfold tlk; omega)).trans f1
  · exact (hfr _ (by omega) (by omega) (fun y hy => by unfold tlk; omega)).trans f2
  · intro j j1 j2 j3 j4 j5 j6
    rw [hfr j j2 j1 j6]
    show m3 j = S.m j
    rw [f3 j (by omega) j4 j5, e2 j j1]
  · intro j j1 j2 j3 j4
    rw [f3 j j2 j3 j4, e2 j j1]

theorem home_at (x : Nat) (hx : x < c.nodes) : c.home (x : Int) = ((c.nodesAt + 4 * x + 1 : Nat) : Int) := node_at c x hx 1
theorem migrate_arg {w n g s : Int} (h : s < 0 ∨ (c.workers : Int) ≤ s) (i : Nat) : iter c (prApp c R0) (i + 1) (some (migrateK c w n g s k)) S = iterR c (prApp c R0) i (prApp c R0 k (.e 1) (S.note (migratePoint w n g 1))) := by
  unfold migrateK
  rw [if_pos h, it_idle, app_ret, mg0_u]
theorem migrate_stale {w n g s : Int} (h : ¬ (s < 0 ∨ (c.workers : Int) ≤ s)) (h2 : c.state n < 0) (i : Nat) : iter c (prApp c R0) (i + 1) (some (migrateK c w n g s k)) S = iterR c (prApp c R0) i (prApp c R0 k (.e 4) (S.note (migratePoint w n g 4))) := by
  unfold migrateK
  rw [if_neg h, if_pos h2, it_idle, app_ret, mg0_u]
theorem migrate_load {w g s : Int} {x : Nat} (h : ¬ (s < 0 ∨ (c.workers : Int) ≤ s)) (hx : x < c.nodes) (hn : S.n = c.size) (i : Nat) : iter c (prApp c R0) (i + 1) (some (migrateK c w x g s k)) S = iterR c (prApp c R0) i (prApp c R0 (.mg1 w x g s k) (.w (S.m (c.nodesAt + 4 * x))) (S.w 1 S.m)) := by
  have hl := nlk_lt hx
  have hts : c.ticketsAt ≤ c.size := by unfold Cf.size Cf.connsAt; omega
  unfold migrateK
  rw [if_neg h, if_neg (state_nat hx), state_at c x hx, it_load (by unfold nlk at hl; omega), app_ret]
theorem migrate_no {w g s : Int} {x : Nat} (h : ¬ (s < 0 ∨ (c.workers : Int) ≤ s)) (hx : x < c.nodes) (hn : S.n = c.size) (ha : armedW (S.m (c.nodesAt + 4 * x)) g = false) (i : Nat) :
    iter c (prApp c R0) (i + 1) (some (migrateK c w x g s k)) S = iterR c (prApp c R0) i (prApp c R0 k (.e 4) ((S.w 1 S.m).note (migratePoint w x g 4))) := by
  rw [migrate_load h hx hn, mg1_no' _ _ _ _ _ _ ha]
theorem migrate_home {w g s : Int} {x : Nat} (h : ¬ (s < 0 ∨ (c.workers : Int) ≤ s)) (hx : x < c.nodes) (hn : S.n = c.size) (ha : armedW (S.m (c.nodesAt + 4 * x)) g = true) (i : Nat) :
    iter c (prApp c R0) (i + 2) (some (migrateK c w x g s k)) S = iterR c (prApp c R0) i (prApp c R0 (.mg2 w x g s k) (.w (S.m (c.nodesAt + 4 * x + 1))) (S.w 2 S.m)) := by
  have hl := nlk_lt hx
  have hts : c.ticketsAt ≤ c.size := by unfold Cf.size Cf.connsAt; omega
  rw [show i + 2 = (i + 1) + 1 from rfl, migrate_load h hx hn, mg1_yes' _ _ _ _ _ _ ha, iterR_some, home_at x hx, it_load (by show _ < S.n; unfold nlk at hl; omega), app_ret]
  simp only [St.w_w, St.w_m]
theorem migrate_gone {w g s : Int} {x : Nat} (h : ¬ (s < 0 ∨ (c.workers : Int) ≤ s)) (hx : x < c.nodes) (hn : S.n = c.size) (ha : armedW (S.m (c.nodesAt + 4 * x)) g = true) (hv : homeV (S.m (c.nodesAt + 4 * x + 1)) g = 65535) (i : Nat) :
    iter c (prApp c R0) (i + 2) (some (migrateK c w x g s k)) S = iterR c (prApp c R0) i (prApp c R0 k (.e 5) ((S.w 2 S.m).note (migratePoint w x g 5))) := by
  rw [migrate_home h hx hn ha, mg2_gone _ _ _ _ _ _ hv]
theorem migrate_full {w g s : Int} {x : Nat} (h : ¬ (s < 0 ∨ (c.workers : Int) ≤ s)) (hx : x < c.nodes) (hok : c.Ok) (hn : S.n = c.size) (ha : armedW (S.m (c.nodesAt + 4 * x)) g = true) (hv : ¬ homeV (S.m (c.nodesAt + 4 * x + 1)) g = 65535) (hs : Shop c S.m fn [] bx) (i : Nat) :
    iter c (prApp c R0) (i + 3) (some (migrateK c w x g s k)) S = iterR c (prApp c R0) i (prApp c R0 k (.e 3) ((S.w 3 S.m).note (migratePoint w x g 3))) := by
  have hsz := hok.size_le
  rw [show i + 3 = (i + 1) + 2 from rfl, migrate_home h hx hn ha, mg2_yes' _ _ _ _ _ _ hv, iterR_some, it_pop_none (st := .tickets) (S := S.w 2 S.m) (by show 2 < S.n; omega) hs.tickets, app_ret, mg3_no', St.w_w, St.w_m]
theorem homeV_bd (x : Nat) (g : Int) : 0 ≤ homeV x g ∧ homeV x g ≤ 65535 := by
  have h : part x 16 16 < 65536 := Nat.mod_lt _ (by decide)
  unfold homeV
  split <;> omega
theorem migrate_ok {s : Nat} {w g : Int} {x t : Nat} (hsl : s < c.workers) (hx : x < c.nodes) (hok : c.Ok) (hn : S.n = c.size) (ha : armedW (S.m (c.nodesAt + 4 * x)) g = true) {v : Nat} (hv : homeV (S.m (c.nodesAt + 4 * x + 1)) g = (v : Int)) (hvl : v < 65535)
    (hs : Shop c S.m fn (t :: ft) bx) : ∃ d m' ms, (∀ i, iter c (prApp c R0) (i + d) (some (migrateK c w x g s k)) S = iterR c (prApp c R0) i (prApp c R0 k (.e 0) ((S.w d m').note (migratePoint w x g 0)))) ∧
      d ≤ 8 * ((bx s).takeWhile (deadM c ms)).length + 14 ∧ 1 ≤ d ∧ Shop c m' fn (((bx s).takeWhile (deadM c ms)).reverse ++ ft) (setB bx s (t :: (bx s).dropWhile (deadM c ms))) ∧
      Turned c S.m m' x t s 1 (homeWord g ((v : Int) + 1) s) (keyWord g ((v : Int) + 1) x) (toU (upI (part (S.m (c.nodesAt + 4 * x)) 2 30 : Nat) c.slack)) ∧
      (∀ j, j ≠ 2 → j ≠ c.ticketsAt + 3 * t → j ≠ c.ticketsAt + 3 * t + 1 → ms j = S.m j) := by
  have hsz := hok.size_le
  have htn : t < c.tickets := hs.tlt t (List.mem_cons_self ..)
  have n9 := hok.nodesAt_le
  have n2 := hok.n2
  have t2 := hok.t2
  have hl := nlk_lt hx
  have htl := tlk_lt htn
  have hts : c.ticketsAt ≤ c.size := by unfold Cf.size Cf.connsAt; omega
  have hnt : c.ticketsAt = c.nodesAt + 4 * c.nodes := rfl
  have hw : ¬ ((s : Int) < 0 ∨ (c.workers : Int) ≤ (s : Int)) := by omega
  have hgq := armedW_eq ha
  have hgl : part (S.m (c.nodesAt + 4 * x)) 32 32 < 4294967296 := Nat.mod_lt _ (by decide)
  obtain ⟨gn, rfl⟩ : ∃ gn : Nat, g = (gn : Int) := ⟨part (S.m (c.nodesAt + 4 * x)) 32 32, hgq.2.symm⟩
  have hs2 := hs.popTicket hok
  have hle := hs.tickets.2.head_le (n := c.tickets) fun y hy => hs.tlt y (List.mem_cons_of_mem _ hy)
  have e2 : ∀ j, j ≠ 2 → upd S.m 2 (turned (S.m 2) ((S.m (tlk c t) : Int) - 1)) j = S.m j := fun j hj => upd_other _ _ hj
  have hpop := fun n => it_pop (R := prApp c R0) (cf := c) (c := .ret (.mg3 w x gn s (S.m (c.nodesAt + 4 * x + 1)) ((v : Int) + 1) k)) (S := S.w 2 S.m) (st := .tickets) (f := t) (l := tlk c t) (n := n) (by show 2 < S.n; omega) hs.tickets.1 (ticketLink_at c t htn) (by show tlk c t < S.n; omega) (by show S.m (tlk c t) ≤ _; omega)
  simp only [St.w_w, St.w_m, Stk.headN] at hpop
  generalize hm2 : upd S.m 2 (turned (S.m 2) ((S.m (tlk c t) : Int) - 1)) = m2 at *
  have htb : ∀ s', s' < c.workers → t ∉ bx s' := fun s' hs' => hs.tb s' hs' t (List.mem_cons_self ..)
  have hst : m2 (c.nodesAt + 4 * x) = S.m (c.nodesAt + 4 * x) := e2 _ (by omega)
  have hs3 := hs2.write (t := t) (kw := keyWord (gn : Int) ((v : Int) + 1) x) (tm := toU (upI (part (S.m (c.nodesAt + 4 * x)) 2 30 : Nat) c.slack)) hok htb
  have hrun : ∀ i, iter c (prApp c R0) (i + 8) (some (migrateK c w x gn s k)) S = iter c (prApp c R0) i (some (putK c s t (.mg7 x gn s (S.m (c.nodesAt + 4 * x + 1)) ((v : Int) + 1) k))) ((S.note (migratePoint w x gn 0)).w 8 (wrM c m2 t (keyWord (gn : Int) ((v : Int) + 1) x) (toU (upI (part (S.m (c.nodesAt + 4 * x)) 2 30 : Nat) c.slack)))) := by
    intro i
    rw [show i + 8 = (i + 6) + 2 from rfl, migrate_home hw hx hn ha, mg2_yes' _ _ _ _ _ _ (by rw [hv]; omega), hv, iterR_some, show i + 6 = (i + 3) + 3 from rfl, hpop, app_ret, mg3_yes', iterR_some, state_at c x hx, show i + 3 = (i + 2) + 1 from rfl, it_load (by show _ < S.n; omega), app_ret,
      mg4_yes' _ _ _ _ _ _ _ _ _ (by show armedW (m2 _) _ = true; rw [hst]; exact ha), iterR_some]
    simp only [St.w_w, St.w_m, St.w_note, St.note_m]
    rw [hst, it_write (k := c.ticketsAt + 3 * t) (t0 := c.ticketsAt + 3 * t + 1) (ticket_at c t htn 0) (ticket_at c t htn 1) (by show _ < S.n; unfold tlk at htl; omega) (by show _ < S.n; unfold tlk at htl; omega), app_ret, mg6_u, iterR_some]
    simp only [St.w_w, St.w_m, St.w_note, St.note_m]
    rfl
  have f1 := @wrM_key c m2 t (keyWord (gn : Int) ((v : Int) + 1) x) (toU (upI (part (S.m (c.nodesAt + 4 * x)) 2 30 : Nat) c.slack))
  have f2 := @wrM_time c m2 t (keyWord (gn : Int) ((v : Int) + 1) x) (toU (upI (part (S.m (c.nodesAt + 4 * x)) 2 30 : Nat) c.slack))
  have f3 := fun j a b => @wrM_rest c m2 t (keyWord (gn : Int) ((v : Int) + 1) x) (toU (upI (part (S.m (c.nodesAt + 4 * x)) 2 30 : Nat) c.slack)) j a b
  generalize wrM c m2 t (keyWord (gn : Int) ((v : Int) + 1) x) (toU (upI (part (S.m (c.nodesAt + 4 * x)) 2 30 : Nat) c.slack)) = m3 at *
  obtain ⟨d, m', hi, hd, hsp, hfr⟩ := put_alone (R0 := R0) hok hsl htn (fn := fn) (bx s) (S := (S.note (migratePoint w x gn 0)).w 8 m3) (ft := ft) (bx := bx) rfl hn hs3 (List.nodup_cons.1 hs.tnd).1 htb (by
    show part (m3 _) 0 16 < _
    rw [f1]
    have := (key_parts3 gn (v + 1) x (by omega) (by omega) (by omega)).2.2
    rw [Int.natCast_add] at this
    have e : part (keyWord (gn : Int) ((v : Int) + 1) x) 0 16 = x := this
    rw [e]; exact hx)
  have hib := inb_bd hsl
  have hhm : m' (c.nodesAt + 4 * x + 1) = S.m (c.nodesAt + 4 * x + 1) := by
    rw [hfr _ (by omega) (by omega) (fun y hy => by have := tlk_lt hy; omega)]
    show m3 _ = _
    rw [f3 _ (by omega) (by omega), e2 _ (by omega)]
  have hsp' : Shop c (upd m' (c.nodesAt + 4 * x + 1) (homeWord (gn : Int) ((v : Int) + 1) s)) fn (((bx s).takeWhile (deadM c m3)).reverse ++ ft) (setB bx s (t :: (bx s).dropWhile (deadM c m3))) := hsp.node hok hx (by decide)
  refine ⟨9 + d, upd m' (c.nodesAt + 4 * x + 1) (homeWord (gn : Int) ((v : Int) + 1) s), m3, ?_, ?_, by omega, hsp', ⟨?_, ?_, ?_, ?_⟩, ?_⟩
  · intro i
    rw [show i + (9 + d) = ((i + 1) + d) + 8 by omega, hrun, hi, mg7_u, iterR_some, home_at x hx, it_cas (by show _ < S.n; omega) hhm, app_ret, mg8_b]
    simp only [St.w_w, St.w_note, St.w_m]
    rw [show 8 + d + 1 = 9 + d by omega]
  · have hd' : d ≤ 8 * ((bx s).takeWhile (deadM c m3)).length + 5 := hd
    omega
  · exact upd_same _ _ _
  · rw [upd_other _ _ (by omega)]; exact (hfr _ (by omega) (by omega) (fun y hy => by unfold tlk; omega)).trans f1
  · rw [upd_other _ _ (by omega)]; exact (hfr _ (by omega) (by omega) (fun y hy => by unfold tlk; omega)).trans f2
  · intro j j1 j2 j3 j4 j5 j6
    rw [upd_other _ _ j3, hfr j j2 j1 j6]
    show m3 j = S.m j
    rw [f3 j j4 j5, e2 j j1]
  · intro j j1 j3 j4
    rw [f3 j j3 j4, e2 j j1]
end
end Go.Proofs.YtgemjjpmoejgdaaGreat
