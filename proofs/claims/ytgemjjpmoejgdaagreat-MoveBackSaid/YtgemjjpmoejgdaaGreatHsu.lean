/- What does a deed of a Start, a Cancel, a Rearm or a Migrate, and goes on with an event. -/
import Derived.Test.YtgemjjpmoejgdaaGreatHst
import Derived.StillTail
import Derived.Deep.Quiet
namespace Go.Proofs.YtgemjjpmoejgdaaGreat
open Go.RowKit
set_option maxRecDepth 100000
set_option linter.unusedVariables false

section
variable {ρ : Type} (V : ρ → Ev → St → St × Option (K (PR ρ)))
end
/-- A deed's values. -/
structure DeedR where
  op : Int
  hn : Int
  hg : Int
  time : Int
  arg : Int
  user : Int
def DeedR.cells (d : DeedR) : List Value := [.int .i64 d.op, .int .i64 d.hn, .int .i64 d.hg, .int .i64 d.time, .int .i64 d.arg, .int .i64 d.user]
section
variable {ρ : Type}
end
section
variable {ρ : Type} {V : ρ → Ev → St → St × Option (K (PR ρ))} {E : G} {t : Nat}
end
end Go.Proofs.YtgemjjpmoejgdaaGreat
/- Deeds that are done alone, whose callers take events. -/
namespace Go.Proofs.YtgemjjpmoejgdaaGreat
open Go.RowKit
set_option maxRecDepth 100000
set_option linter.unusedVariables false

section
variable {ρ : Type} {V : ρ → Ev → St → St × Option (K (PR ρ))} {c : Cf} {S : St} {fn ft : List Nat} {bx : Nat → List Nat} {R : ShopR} {r : ρ}
end
theorem knows_reg {S T : St} (h : T.reg = S.reg) {a : Nat × Nat} (hk : S.knows a) : T.knows a := by unfold St.knows; rw [h]; exact hk

end Go.Proofs.YtgemjjpmoejgdaaGreat
/- The lists of what there is. -/
namespace Go.Proofs.YtgemjjpmoejgdaaGreat
open Go.RowKit
set_option maxRecDepth 100000
set_option linter.unusedVariables false

theorem nodup_length : ∀ (n : Nat) (xs : List Nat), xs.Nodup → (∀ x ∈ xs, x < n) → xs.length ≤ n
  | 0, xs, _, h => by
    cases xs with
    | nil => exact Nat.le_refl _
    | cons x xs => exact absurd (h x (List.mem_cons_self ..)) (Nat.not_lt_zero _)
  | n + 1, xs, hn, h => by
    have h1 := nodup_length n (xs.erase n) (hn.erase n) (fun x hx => by
      have h2 := h x (List.mem_of_mem_erase hx)
      have h3 : x ≠ n := fun e => by subst e; exact (List.Nodup.not_mem_erase hn) hx
      omega)
    have h4 := List.length_erase (a := n) (l := xs)
    split at h4 <;> omega
section
variable {E : G} {L : Lab} {S : St} {w : World} {fn ft : List Nat} {bx : Nat → List Nat}
theorem Cf.Ok.sizes {c : Cf} (hok : c.Ok) : c.nodes ≤ c.size ∧ c.tickets ≤ c.size ∧ c.nodes ≤ 1000000 ∧ c.tickets ≤ 1000000 ∧ c.size = c.size := by
  have := hok.n2; have := hok.t2
  have h1 : c.ticketsAt = c.nodesAt + 4 * c.nodes := rfl
  have h2 : c.connsAt = c.ticketsAt + 3 * c.tickets := rfl
  have h3 : c.size = c.connsAt + c.conns := rfl
  omega
def ints (xs : List Nat) : List Value := xs.map fun (x : Nat) => Value.int .i64 (x : Int)
theorem boxed_list (hg : Good E L S w) (hn : S.n = E.cf.size) (hs : Shop E.cf S.m fn ft bx) {s : Nat} (hsl : s < E.cf.workers) :
    Calls Tryz.prog 58 #[.agg #[.pointer (some ⟨E.a, 0, none⟩), .int .i64 (inb E.cf s : Nat), .func (.func 100) #[.pointer (some ⟨E.p, 0, none⟩)] #[]]] w fun e w' => ∃ v, e = .returned v ∧ w'.ownsRow w.heap.size 3 1 v (bx s).length (ints (bx s)) ∧ Below w.heap.size w w' := by
  have hz := hg.ok.sizes
  have n9 := hg.ok.nodesAt_le
  have hib := inb_bd hsl
  have hts : E.cf.nodesAt ≤ E.cf.size := by unfold Cf.size Cf.connsAt Cf.ticketsAt; omega
  refine stack_list hg 100 (fun _ _ => by kernel_rfl) (inb E.cf s) (by omega) (tlk E.cf) (bx s) (fun x hx w hp => ?_) ((hs.boxes s hsl).chain (hs.blt s hsl) (fun x hx => ?_) hz.2.2.2.1) ?_
  · have h := plan_TicketLink hg.ok E.p x w hp
    rwa [ticketLink_at E.cf x (hs.blt s hsl x hx)] at h
  · have := tlk_lt hx
    omega
  · have := nodup_length _ (bx s) (hs.bnd s hsl) (hs.blt s hsl)
    omega
set_option maxHeartbeats 2000000 in
theorem box_list (hg : Good E L S w) (hn : S.n = E.cf.size) (hs : Shop E.cf S.m fn ft bx) {s : Nat} (hsl : s < E.cf.workers) :
    Calls Tryz.prog 36 #[boxVal E s] w fun e w' => ∃ v, e = .returned v ∧ w'.ownsRow w.heap.size 3 1 v (bx s).length (ints (bx s)) ∧ Below w.heap.size w w' := by
  have HL := Go.Lib.hid (fun W (hW : Below w.heap.size w W) => boxed_list (hg.below hW) hn hs hsl)
  have hal : ∀ o, Below w.heap.size w (w.alloc o) := fun o => (Below.refl _ _).alloc (Nat.le_refl _) _
  have HAL := Go.Lib.hid hal
  unfold boxVal linkVal
  rw [inb_at hsl]
  generalize ints (bx s) = xs at *
  generalize (bx s).length = nn at *
  generalize inb E.cf s = k at *
  clear hg hal hn hs hsl
  go_enter Tryz.func36, Tryz.ntmps36
  go_wp2_with fail
  refine (HL.out _ (HAL.out _)).mono ?_
  rintro e w2 ⟨v, rfl, hown, hb2⟩
  obtain ⟨a, cap, rfl⟩ := own_form hown
  have HB2 := Go.Lib.hid ((HAL.out _).trans (hb2.mono (HAL.out _).size))
  have HO := Go.Lib.hid (own_mono hown (HAL.out (.cells #[.pointer (some ⟨E.a, 0, none⟩), .int .i64 k, .func (.func 100) #[.pointer (some ⟨E.p, 0, none⟩)] #[], .func (.func 113) #[.pointer (some ⟨E.k, 0, none⟩)] #[], .pointer (some ⟨E.a, 0, none⟩), .int .i64 2, .func (.func 100) #[.pointer (some ⟨E.p, 0, none⟩)] #[]] 68)).size)
  clear hown hb2
  go_wp2
  go_ret
  exact ⟨_, rfl, HO.out, HB2.out⟩
end
end Go.Proofs.YtgemjjpmoejgdaaGreat
/- The example of chapter 18, without a program. -/
namespace Go.Proofs.YtgemjjpmoejgdaaGreat
open Go.RowKit
set_option maxRecDepth 100000
set_option linter.unusedVariables false

/-- A caller's continuation of an error that writes one variable down, where what comes is as looked for; of a handle: it does nothing. -/
def onE (p : Int → Bool) (f : Int → Value) : Nat × Nat → Arg → St → St × Option (K (PR (Nat × Nat)))
  | a, .e x, S => if p x = true ∧ S.knows a then (S.setR a (f x), none) else (S.burst, none)
  | _, _, S => (S, none)
theorem onE_mono (p : Int → Bool) (f : Int → Value) : ∀ (r : Nat × Nat) (a : Arg) (S : St), S.cnt ≤ (onE p f r a S).1.cnt ∧ S.log.length ≤ (onE p f r a S).1.log.length := by
  intro r a S
  cases a <;> try exact ⟨Nat.le_refl _, Nat.le_refl _⟩
  unfold onE
  dsimp only
  split
  · exact ⟨Nat.le_refl _, Nat.le_refl _⟩
  · exact ⟨by unfold St.burst; dsimp only; omega, Nat.le_refl _⟩
theorem onE_e (p : Int → Bool) (f : Int → Value) (a : Nat × Nat) (x : Int) (S : St) (hp : p x = true) (hk : S.knows a) : onE p f a (.e x) S = (S.setR a (f x), none) := by
  show (if p x = true ∧ S.knows a then _ else _) = _
  rw [if_pos ⟨hp, hk⟩]
theorem onE_he (p : Int → Bool) (f : Int → Value) (a : Nat × Nat) (n g e : Int) (S : St) : onE p f a (.he n g e) S = (S, none) := rfl

def c18 : Cf := ⟨2, 1, 1, 2, 2, 0, 0, 0, 1, 1, 1, 0, 0⟩
theorem c18_ok : c18.Ok := by constructor <;> decide
def spE := onE (fun e => decide (e = 0)) (fun _ => .bool true)
theorem spE_mono : RMono (prApp c18 spE) := prApp_mono c18 spE (onE_mono _ _)
def sp18 (b : Nat) : St := (S0 c18).newR b [.bool false]
/-- Behind the Start. -/
structure Sp1 (b : Nat) (S : St) : Prop where
  n : S.n = c18.size
  shop : Shop c18 S.m [1] [1] (setB (fun _ => []) 0 [0])
  state : S.m (c18.nodesAt + 4 * 0) = stateWord 1 5 1
  home : S.m (c18.nodesAt + 4 * 0 + 1) = 0
  key : S.m (c18.ticketsAt + 3 * 0) = keyWord 1 0 0
  cnt : S.cnt ≤ 1000
  log : S.log.length ≤ 10
  knows : S.knows (b, 0)
theorem sp18_start (b : Nat) : ∃ m S', m ≤ 80 ∧ RunsF c18 (prApp c18 spE) (startK c18 0 5 0 0 (.user (b, 0))) (sp18 b) m S' ∧ Sp1 b S' := by
  have h1 : freshM c18 (c18.nodesAt + 4 * 0) = 0 := by decide
  have h2 : freshM c18 (c18.nodesAt + 4 * 0 + 1) = 0 := by decide
  have hs : Shop c18 (freshM c18) [0, 1] [0, 1] (fun _ => []) := shop_fresh c18_ok
  obtain ⟨d, m', ms, hi, hd, hd1, hsp, hst, _⟩ := start_ok (R0 := spE) (k := .user (b, 0)) (c := c18) (wk := 0) (ticks := 5) (shard := 0) (user := 0) (S := sp18 b) (fn := [1]) (ft := [1]) (bx := fun _ => []) (s := 0) rfl (by decide) (by decide) rfl c18_ok
    (by show freshM c18 0 ≤ _; rw [freshM_zero c18_ok]; decide) (by show ¬ 1073741823 - ((freshM c18 0 : Nat) : Int) < 5; rw [freshM_zero c18_ok]; decide) (x := 0) (t := 0) hs (gn := 0) (by show part (freshM c18 (c18.nodesAt + 4 * 0)) 32 32 = 0; rw [h1]; decide) (by decide)
  have hrun := hi 0
  rw [prApp_user, show spE = onE (fun e => decide (e = 0)) (fun _ => .bool true) from rfl, onE_he, iterR_none, Nat.zero_add] at hrun
  have hd' : d ≤ 17 := hd
  obtain ⟨m, hm, hr⟩ := runs_of_iter spE_mono d _ _ _ hrun ⟨by show 0 + d ≤ _; omega, by show (([] : List Ev) ++ [_]).length ≤ _; simp⟩
  have h0 : (sp18 b).m 0 = 0 := freshM_zero c18_ok
  refine ⟨m, _, by omega, hr, rfl, hsp, ?_, ?_, hst.key, by show 0 + d ≤ _; omega, by show (([] : List Ev) ++ [_]).length ≤ _; simp, St.newR_knows (S0 c18) b [.bool false] (by decide)⟩
  · have := hst.state
    rw [h0] at this
    exact this
  · have := hst.rest (c18.nodesAt + 4 * 0 + 1) (by decide) (by decide) (by decide) (by decide) (by decide) (by decide) (by decide) (by intro y hy; unfold tlk Cf.ticketsAt; show c18.nodesAt + 4 * 0 + 1 ≠ c18.nodesAt + 4 * c18.nodes + 3 * y + 2; have : c18.nodes = 2 := rfl; omega)
    exact this.trans h2
/-- Behind the Migrate. -/
structure Sp2 (b : Nat) (S : St) : Prop where
  n : S.n = c18.size
  shop : Shop c18 S.m [1] [] (setB (setB (fun _ => []) 0 [0]) 1 [1])
  home : S.m (c18.nodesAt + 4 * 0 + 1) = homeWord 1 1 1
  key0 : S.m (c18.ticketsAt + 3 * 0) = keyWord 1 0 0
  key1 : S.m (c18.ticketsAt + 3 * 1) = keyWord 1 1 0
  cnt : S.cnt ≤ 2000
  log : S.log.length ≤ 20
  reads : S.reads (b, 0) (.bool true)
theorem sp18_move (b : Nat) (S : St) (h : Sp1 b S) : ∃ m S', m ≤ 80 ∧ RunsF c18 (prApp c18 spE) (migrateK c18 0 0 1 1 (.user (b, 0))) S m S' ∧ Sp2 b S' := by
  have hp := state_parts3 1 5 1 (by decide) (by decide) (by decide)
  have ha : armedW (S.m (c18.nodesAt + 4 * 0)) 1 = true := by
    unfold armedW
    rw [h.state]
    exact decide_eq_true ⟨hp.2.2, congrArg (fun x : Nat => (x : Int)) hp.1⟩
  have hv : homeV (S.m (c18.nodesAt + 4 * 0 + 1)) 1 = ((0 : Nat) : Int) := by rw [h.home]; decide
  obtain ⟨d, m', ms, hi, hd, hd1, hsp, hst, _⟩ := migrate_ok (R0 := spE) (k := .user (b, 0)) (c := c18) (s := 1) (w := 0) (g := 1) (x := 0) (t := 1) (fn := [1]) (ft := []) (bx := setB (fun _ => []) 0 [0]) (by decide) (by decide) c18_ok h.n ha hv (by decide) h.shop
  have hk : ((S.w d m').note (migratePoint 0 (0 : Nat) 1 0)).knows (b, 0) := h.knows
  have hrun := hi 0
  rw [prApp_user, show spE = onE (fun e => decide (e = 0)) (fun _ => .bool true) from rfl, onE_e _ _ _ _ _ (by decide) hk, iterR_none, Nat.zero_add] at hrun
  have hd' : d ≤ 14 := hd
  have hc := h.cnt
  have hl := h.log
  obtain ⟨m, hm, hr⟩ := runs_of_iter spE_mono d _ _ _ hrun ⟨by show S.cnt + d ≤ _; omega, by show (S.log ++ [_]).length ≤ _; rw [List.length_append]; show S.log.length + 1 ≤ _; omega⟩
  refine ⟨m, _, by omega, hr, h.n, hsp, hst.cell, ?_, hst.key, by show S.cnt + d ≤ _; omega, by show (S.log ++ [_]).length ≤ _; rw [List.length_append]; show S.log.length + 1 ≤ _; omega, St.setR_reads hk⟩
  have := hst.rest (c18.ticketsAt + 3 * 0) (by decide) (by decide) (by decide) (by decide) (by decide) (by intro y hy; unfold tlk; omega)
  exact this.trans h.key
end Go.Proofs.YtgemjjpmoejgdaaGreat
/- A region that draws its order, by an invariant on what is done, the slots and the world. -/
namespace Go.Proofs.YtgemjjpmoejgdaaGreat
open Go
set_option linter.unusedVariables false

section
variable {P : Program} {ops : Array Oper}
/-- Every operation waits for earlier ones alone. -/
def backB (ops : Array Oper) : Bool := (List.range ops.size).all fun i => ((ops[i]?).map fun o => o.after.all fun e => decide (e.on < i)).getD true
theorem ready_nil {md : Region.Mode} (hb : backB ops = true) {listed : Array Bool} (h : Region.ready md ops listed = []) : ∀ (n i : Nat), i < n → i < ops.size → listed.getD i true = true := by
  intro n
  induction n with
  | zero => intro i hi; omega
  | succ n ih =>
    intro i hi hlt
    by_cases hin : i < n
    · exact ih i hin hlt
    · obtain rfl : i = n := by omega
      cases hl : listed.getD i true with
      | true => rfl
      | false =>
        have ho : ops[i]? = some ops[i] := Array.getElem?_eq_getElem hlt
        have hmem : i ∈ Region.ready md ops listed := by
          refine mem_ready.2 ⟨hl, ops[i], ho, fun e he _ => ?_⟩
          have h1 := List.all_eq_true.1 hb i (List.mem_range.2 hlt)
          rw [ho] at h1
          have h2 : e.on < i := by
            have := Array.all_eq_true_iff_forall_mem.1 h1 e he
            exact of_decide_eq_true this
          have h3 := ih e.on h2 (by omega)
          cases h4 : listed.getD e.on false with
          | true => rfl
          | false =>
            exfalso
            rcases Nat.lt_or_ge e.on listed.size with h5 | h5
            · simp [h5] at h3 h4; rw [h4] at h3; cases h3
            · have h6 : listed.size ≤ i := by omega
              simp [Array.getElem?_eq_none h6] at hl
        rw [h] at hmem
        cases hmem
/-- The law: what holds at first, is kept by each operation whose turn may come, and hands over at the end. -/
theorem wp_region_inv {id : Nat} {Q : Exit → Act → World → Prop} {a : Act} {w : World} {l : List Oper} (INV : Array Bool → Act → World → Prop) (hm : P.follows .mixedOrders = true) (hb : backB l.toArray = true)
    (h0 : INV (Array.replicate l.toArray.size false) a { w with drawn := w.drawn + 1 })
    (hstep : ∀ (i : Nat) (listed : Array Bool) (a : Act) (w : World) (o : Oper), l.toArray[i]? = some o → listed.size = l.toArray.size → INV listed a w → listed.getD i true = false → (∀ e ∈ o.after, Region.binds .any e = true → listed.getD e.on false = true) →
      ∀ K : Act → World → Prop, (∀ a' w', INV (listed.setIfInBounds i true) a' w' → K a' w') → wpOp P l.toArray Q i K a w)
    (hend : ∀ (listed : Array Bool) (a : Act) (w : World), listed.size = l.toArray.size → INV listed a w → (∀ i, i < l.toArray.size → listed.getD i true = true) → Q .normal a w) :
    (Code.region id l.toArray true).wp P Q a w := by
  refine wp_region_any hm ?_
  have key : ∀ (f : Nat) (listed : Array Bool) (a : Act) (w : World), listed.size = l.toArray.size → (listed.toList.countP fun b => !b) ≤ f → INV listed a w → wpAny P .any l.toArray Q f listed a w := by
    intro f
    induction f with
    | zero =>
      intro listed a w hs hc hi
      have hall : ∀ i, i < l.toArray.size → listed.getD i true = true := by
        intro i hlt
        have h1 : (listed.toList.countP fun b => !b) = 0 := by omega
        have h2 := List.countP_eq_zero.1 h1
        have h3 : i < listed.size := by omega
        have h4 := h2 listed[i] (by simp)
        simp [h3]
        simpa using h4
      refine ⟨?_, hend listed a w hs hi hall⟩
      refine List.eq_nil_iff_forall_not_mem.2 fun i hmem => ?_
      obtain ⟨h1, o, ho, _⟩ := mem_ready.1 hmem
      have := hall i (Array.getElem?_eq_some_iff.1 ho).1
      rw [this] at h1
      cases h1
    | succ f ih =>
      intro listed a w hs hc hi
      refine ⟨fun hnil => hend listed a w hs hi fun i hlt => ready_nil hb hnil (i + 1) i (by omega) hlt, fun i hmem => ?_⟩
      obtain ⟨h1, o, ho, h2⟩ := mem_ready.1 hmem
      refine hstep i listed a w o ho hs hi h1 h2 _ fun a' w' hi' => ih _ a' w' (by simpa using hs) ?_ hi'
      have hlt : i < listed.size := by rw [hs]; exact (Array.getElem?_eq_some_iff.1 ho).1
      have hset : (listed.setIfInBounds i true).toList = listed.toList.set i true := by simp
      rw [hset, List.countP_set (by simpa using hlt)]
      have hfi : listed.toList[i]'(by simpa using hlt) = false := by simp [hlt] at h1; simpa using h1
      rw [hfi]
      show (listed.toList.countP fun b => !b) - 1 + 0 ≤ f
      omega
  exact key _ _ a _ (by simp) (by have := List.countP_le_length (p := fun b => !b) (l := (Array.replicate l.toArray.size false).toList); simpa using this) h0
end
end Go.Proofs.YtgemjjpmoejgdaaGreat
/- A region by an invariant: what its slots hold, by a table. -/
namespace Go.Proofs.YtgemjjpmoejgdaaGreat
open Go
set_option linter.unusedVariables false

/-- What a slot holds. -/
def slotOf (a : Act) (s : Nat) : Value := a.tmps.getD s undef
theorem slot_eval (a : Act) (s : Nat) : a.eval (.tmp s) = slotOf a s := rfl
theorem slot_put_same {a : Act} {d : Nat} {v : Value} (h : d < a.tmps.size) : slotOf (a.put (some d) v) d = v := by
  unfold slotOf Act.put
  dsimp only
  simp [h]
theorem slot_put_other {a : Act} {d s : Nat} {v : Value} (h : s ≠ d) : slotOf (a.put (some d) v) s = slotOf a s := by
  unfold slotOf Act.put
  dsimp only
  by_cases hs : s < a.tmps.size
  · simp [hs, Ne.symm h]
  · simp [hs]
/-- Only these slots were turned. -/
structure Fr (S : List Nat) (a0 a : Act) : Prop where
  size : a.tmps.size = a0.tmps.size
  defers : a.defers = a0.defers
  rest : ∀ s, s ∉ S → slotOf a s = slotOf a0 s
theorem Fr.refl (S : List Nat) (a : Act) : Fr S a a := ⟨rfl, rfl, fun _ _ => rfl⟩
theorem Fr.put {S : List Nat} {a0 a : Act} {d : Nat} {v : Value} (h : Fr S a0 a) (hd : d ∈ S) : Fr S a0 (a.put (some d) v) :=
  ⟨by rw [← h.size]; unfold Act.put; simp, h.defers, fun s hs => by rw [slot_put_other (fun e => hs (by rw [e]; exact hd))]; exact h.rest s hs⟩
theorem foldl_put_size (S : List Nat) (f : Nat → Value) : ∀ a : Act, (S.foldl (fun x d => x.put (some d) (f d)) a).tmps.size = a.tmps.size := by
  induction S with
  | nil => intro a; rfl
  | cons d S ih => intro a; rw [List.foldl_cons, ih]; unfold Act.put; simp
theorem foldl_put_defers (S : List Nat) (f : Nat → Value) : ∀ a : Act, (S.foldl (fun x d => x.put (some d) (f d)) a).defers = a.defers := by
  induction S with
  | nil => intro a; rfl
  | cons d S ih => intro a; rw [List.foldl_cons, ih]; rfl
theorem foldl_put_slot (S : List Nat) (f : Nat → Value) (s : Nat) : ∀ a : Act, s < a.tmps.size → slotOf (S.foldl (fun x d => x.put (some d) (f d)) a) s = if s ∈ S then f s else slotOf a s := by
  induction S with
  | nil => intro a _; rfl
  | cons d S ih =>
    intro a hs
    rw [List.foldl_cons, ih _ (by unfold Act.put; simpa using hs)]
    by_cases h1 : s ∈ S
    · rw [if_pos h1, if_pos (List.mem_cons_of_mem _ h1)]
    · rw [if_neg h1]
      by_cases h2 : s = d
      · subst h2
        rw [if_pos (List.mem_cons_self ..), slot_put_same hs]
      · rw [if_neg (by intro q; rcases List.mem_cons.1 q with q | q; exact h2 q; exact h1 q), slot_put_other h2]
/-- The frame, written out. -/
theorem act_ext {a b : Act} (h1 : a.tmps.size = b.tmps.size) (h2 : a.defers = b.defers) (h : ∀ s, s < a.tmps.size → slotOf a s = slotOf b s) : a = b := by
  rcases a with ⟨t, df⟩
  rcases b with ⟨t2, df2⟩
  dsimp only at h1 h2
  rw [Act.mk.injEq]
  refine ⟨Array.ext h1 fun i hi hi2 => ?_, h2⟩
  have e := h i hi
  unfold slotOf at e
  simpa [hi, hi2] using e
theorem Fr.lit {S : List Nat} {a0 a : Act} (h : Fr S a0 a) : a = S.foldl (fun x d => x.put (some d) (slotOf a d)) a0 := by
  refine act_ext (by rw [foldl_put_size]; exact h.size) (by rw [foldl_put_defers]; exact h.defers) fun s hs => ?_
  rw [foldl_put_slot S (slotOf a) s a0 (by rw [← h.size]; exact hs)]
  split
  · rfl
  · rename_i hn; exact h.rest s hn
/-- What has been done has left its value: (operation, slot, value). -/
def Vals (tab : List (Nat × Nat × Value)) (listed : Array Bool) (a : Act) : Prop := ∀ p ∈ tab, listed.getD p.1 true = true → slotOf a p.2.1 = p.2.2
theorem getD_set_true (listed : Array Bool) (i : Nat) : (listed.setIfInBounds i true).getD i true = true := by
  by_cases h : i < listed.size
  · simp [h]
  · simp [h]
theorem getD_set_other (listed : Array Bool) {i j : Nat} (h : j ≠ i) : (listed.setIfInBounds i true).getD j true = listed.getD j true := by
  by_cases hj : j < listed.size
  · simp [hj, Ne.symm h]
  · simp [hj]
theorem Vals.none {tab : List (Nat × Nat × Value)} {n : Nat} {a : Act} (h : tab.all (fun p => decide (p.1 < n)) = true) : Vals tab (Array.replicate n false) a := by
  intro p hp hl
  have := of_decide_eq_true (List.all_eq_true.1 h p hp)
  simp [this] at hl
theorem Vals.set {tab : List (Nat × Nat × Value)} {listed : Array Bool} {a : Act} {i d : Nat} {v : Value} (h : Vals tab listed a) (hd : d < a.tmps.size) (hchk : tab.all (fun p => decide (p.1 = i ↔ p.2.1 = d)) = true) (hv : ∀ p ∈ tab, p.1 = i → p.2.2 = v) :
    Vals tab (listed.setIfInBounds i true) (a.put (some d) v) := by
  intro p hp hl
  have hc := of_decide_eq_true (List.all_eq_true.1 hchk p hp)
  by_cases e : p.1 = i
  · rw [hc.1 e, slot_put_same hd, hv p hp e]
  · rw [slot_put_other (fun q => e (hc.2 q))]
    exact h p hp (by rw [getD_set_other _ e] at hl; exact hl)
/-- An operation that writes no slot of the table. -/
theorem Vals.skip {tab : List (Nat × Nat × Value)} {listed : Array Bool} {a : Act} {i : Nat} (h : Vals tab listed a) (hchk : tab.all (fun p => decide (p.1 ≠ i)) = true) : Vals tab (listed.setIfInBounds i true) a := by
  intro p hp hl
  have hc := of_decide_eq_true (List.all_eq_true.1 hchk p hp)
  exact h p hp (by rw [getD_set_other _ hc] at hl; exact hl)
theorem Vals.other {tab : List (Nat × Nat × Value)} {listed : Array Bool} {a : Act} {i d : Nat} {v : Value} (h : Vals tab listed a) (hchk : tab.all (fun p => decide (p.1 ≠ i ∧ p.2.1 ≠ d)) = true) : Vals tab (listed.setIfInBounds i true) (a.put (some d) v) := by
  intro p hp hl
  have hc := of_decide_eq_true (List.all_eq_true.1 hchk p hp)
  rw [slot_put_other hc.2]
  exact h p hp (by rw [getD_set_other _ hc.1] at hl; exact hl)

section
variable {P : Program} {ops : Array Oper} {Q : Exit → Act → World → Prop}
theorem st_gen {i : Nat} {dst : Option Tmp} {op : Op} {ty : TypeId} {pos : String} {after : Array Edge} {K : Act → World → Prop} {a : Act} {w : World} (ho : ops[i]? = some ⟨dst, op, ty, pos, after, none⟩) (h : Oper.wp P ⟨dst, op, ty, pos, after, none⟩ a w K Q) : wpOp P ops Q i K a w := by
  unfold wpOp
  rw [ho]
  exact .inl h
theorem st_move {i : Nat} {dst : Option Tmp} {x : Operand} {ty : TypeId} {pos : String} {after : Array Edge} {K : Act → World → Prop} {a : Act} {w : World} (v : Value) (ho : ops[i]? = some ⟨dst, .move x, ty, pos, after, none⟩) (hx : a.eval x = v) (h : K (a.put dst v) w) : wpOp P ops Q i K a w :=
  st_gen ho (by subst hx; exact h)
theorem st_call {i : Nat} {dst : Option Tmp} {f : FuncId} {args : Array Operand} {ats : Array TypeId} {ty : TypeId} {pos : String} {after : Array Edge} {K : Act → World → Prop} {a : Act} {w : World} (vs : Array Value) (ho : ops[i]? = some ⟨dst, .call ⟨.value (.func f), args, ats⟩, ty, pos, after, none⟩)
    (hen : ∀ args w, (callFunc f args).run P w = .ok (.enter f args) w) (hv : args.map a.eval = vs) (h : Calls P f vs w fun e w' => ∃ v, e = .returned v ∧ K (a.put dst v) w') : wpOp P ops Q i K a w := by
  refine st_gen ho ?_
  unfold Oper.wp
  have e : (execOp a.eval ⟨dst, .call ⟨.value (.func f), args, ats⟩, ty, pos, after, none⟩).run P w = .ok (.enter f vs) w := by
    subst hv
    have e2 : execOp a.eval ⟨dst, .call ⟨.value (.func f), args, ats⟩, ty, pos, after, none⟩ = callFunc f ((#[] ++ args.map a.eval) ++ #[]) := by
      unfold execOp resolve
      simp only [Act.eval]
      rfl
    rw [e2, Array.empty_append, Array.append_empty]
    exact hen _ w
  rw [e, Oper.upon_enter]
  refine h.mono ?_
  rintro e w' ⟨v, rfl, hk⟩
  exact hk

/-- What is owed of one operation. -/
def StepOk (P : Program) (ops : Array Oper) (Q : Exit → Act → World → Prop) (S : List Nat) (tab : List (Nat × Nat × Value)) (J : Array Bool → Act → World → Prop) (a : Act) (i : Nat) (o : Oper) : Prop :=
  ∀ (listed : Array Bool) (a' : Act) (w' : World), Fr S a a' → Vals tab listed a' → J listed a' w' → listed.getD i true = false → (∀ j, (o.after.any fun e => e.on == j && Region.binds .any e) = true → listed.getD j true = true) →
    ∀ K : Act → World → Prop, (∀ a'' w'', Fr S a a'' → Vals tab (listed.setIfInBounds i true) a'' → J (listed.setIfInBounds i true) a'' w'' → K a'' w'') → wpOp P ops Q i K a' w'
def StepsOk (P : Program) (ops : Array Oper) (Q : Exit → Act → World → Prop) (S : List Nat) (tab : List (Nat × Nat × Value)) (J : Array Bool → Act → World → Prop) (a : Act) : List Oper → Nat → Prop
  | [], _ => True
  | o :: l, k => StepOk P ops Q S tab J a k o ∧ StepsOk P ops Q S tab J a l (k + 1)
theorem StepsOk.at {S : List Nat} {tab : List (Nat × Nat × Value)} {J : Array Bool → Act → World → Prop} {a : Act} : ∀ (l : List Oper) (k : Nat), StepsOk P ops Q S tab J a l k → ∀ i o, l[i]? = some o → StepOk P ops Q S tab J a (k + i) o
  | [], _, _, i, o, h => by simp at h
  | x :: l, k, h, 0, o, ho => by
    obtain rfl : x = o := by simpa using ho
    exact h.1
  | x :: l, k, h, i + 1, o, ho => by
    have := StepsOk.at l (k + 1) h.2 i o (by simpa using ho)
    rw [show k + (i + 1) = k + 1 + i by omega]
    exact this
theorem getD_both' {listed : Array Bool} {j : Nat} (h : listed.getD j false = true) : listed.getD j true = true := by
  by_cases hj : j < listed.size
  · simp [hj] at h ⊢; exact h
  · simp [hj] at h
theorem wp_region_fr {id : Nat} {a : Act} {w : World} {l : List Oper} (S : List Nat) (tab : List (Nat × Nat × Value)) (J : Array Bool → Act → World → Prop) (hm : P.follows .mixedOrders = true) (hb : backB l.toArray = true) (htab : tab.all (fun p => decide (p.1 < l.toArray.size)) = true)
    (h0 : J (Array.replicate l.toArray.size false) a { w with drawn := w.drawn + 1 })
    (hstep : StepsOk P l.toArray Q S tab J a l 0)
    (hend : ∀ (listed : Array Bool) (a' : Act) (w' : World), Fr S a a' → Vals tab listed a' → J listed a' w' → (∀ i, i < l.toArray.size → listed.getD i true = true) → Q .normal a' w') :
    (Code.region id l.toArray true).wp P Q a w := by
  refine wp_region_inv (fun listed a' w' => Fr S a a' ∧ Vals tab listed a' ∧ J listed a' w') hm hb ⟨Fr.refl _ _, Vals.none htab, h0⟩ ?_ ?_
  · intro i listed a' w' o ho hs hi hun hdep K hK
    have := StepsOk.at l 0 hstep i o (by simpa using ho)
    rw [Nat.zero_add] at this
    refine this listed a' w' hi.1 hi.2.1 hi.2.2 hun (fun j hj => ?_) K fun a'' w'' h1 h2 h3 => hK a'' w'' ⟨h1, h2, h3⟩
    obtain ⟨x, hx, hb'⟩ := Array.any_eq_true.1 hj
    simp only [Bool.and_eq_true, beq_iff_eq] at hb'
    have := hdep _ (Array.getElem_mem hx) hb'.2
    rw [hb'.1] at this
    exact getD_both' this
  · intro listed a' w' hs hi hall
    exact hend listed a' w' hi.1 hi.2.1 hi.2.2 hall
end
/-- What is owed of the slots behind the operation i: the table's row i. -/
theorem Vals.done {tab : List (Nat × Nat × Value)} {listed : Array Bool} {a : Act} {i d : Nat} {v : Value} (h : Vals tab listed a) (hr : tab.map Prod.fst = List.range tab.length) (hn : (tab.map fun p => p.2.1).Nodup) (hi : tab[i]? = some (i, d, v)) (hd : d < a.tmps.size) :
    Vals tab (listed.setIfInBounds i true) (a.put (some d) v) := by
  have hil : i < tab.length := (List.getElem?_eq_some_iff.1 hi).1
  have hie : tab[i] = (i, d, v) := (List.getElem?_eq_some_iff.1 hi).2
  have h1 : ∀ (j : Nat) (hj : j < tab.length), (tab[j]).1 = j := fun j hj => by
    have := congrArg (fun l => l[j]?) hr
    simp [hj] at this
    exact this
  intro p hp hl
  obtain ⟨j, hj, rfl⟩ := List.mem_iff_getElem.1 hp
  by_cases e : j = i
  · subst e
    rw [hie, slot_put_same hd]
  · have hs : (tab[j]).2.1 ≠ d := fun q => by
      have hj' : j < (tab.map fun p => p.2.1).length := by simpa using hj
      have hi' : i < (tab.map fun p => p.2.1).length := by simpa using hil
      have hpw := List.pairwise_iff_getElem.1 hn
      rcases Nat.lt_or_gt_of_ne e with hlt | hlt
      · exact hpw j i hj' hi' hlt (by simp [hie, q])
      · exact hpw i j hi' hj' hlt (by simp [hie, q])
    rw [slot_put_other hs]
    exact h _ hp (by rw [getD_set_other _ (by rw [h1 j hj]; exact e)] at hl; exact hl)
theorem Vals.get {tab : List (Nat × Nat × Value)} {listed : Array Bool} {a : Act} (h : Vals tab listed a) (k : Nat) {i s : Nat} {v : Value} (hk : tab[k]? = some (i, s, v)) (hl : listed.getD i true = true) : slotOf a s = v :=
  h (i, s, v) (List.mem_of_getElem? hk) hl
end Go.Proofs.YtgemjjpmoejgdaaGreat
