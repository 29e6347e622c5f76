/- What a caller's own variables hold; a caller's continuation that lays what it is told into them. -/
import Derived.Test.YtlbjjooiiikmjaaGreatUd
namespace Go.Proofs.YtlbjjooiiikmjaaGreat
open Go.RowKit
set_option maxRecDepth 100000
set_option linter.unusedVariables false

/-- A caller's variable is turned. -/
def St.setR (S : St) (b : Nat) (v : Value) : St := { S with reg := S.reg.map fun p => if p.1 = b then (b, v) else p }
def St.knows (S : St) (b : Nat) : Prop := b ∈ S.reg.map Prod.fst
instance (S : St) (b : Nat) : Decidable (S.knows b) := by unfold St.knows; infer_instance
def St.newR (S : St) (b : Nat) (v : Value) : St := { S with reg := (b, v) :: S.reg }
/-- A state that cannot be: a continuation whose variables there aren't comes to it. -/
def St.burst (S : St) : St := { S with cnt := S.cnt + 4611686018427387905 }
theorem St.burst_no {S : St} (h : Bd S.burst) : False := by
  have := h.cnt
  unfold St.burst at this
  dsimp only at this
  omega
theorem St.knows_setR {S : St} {b b' : Nat} {v : Value} (h : S.knows b) : (S.setR b' v).knows b := by
  unfold St.knows at *
  unfold St.setR
  rw [List.map_map]
  obtain ⟨p, hp, rfl⟩ := List.mem_map.1 h
  refine List.mem_map.2 ⟨p, hp, ?_⟩
  show (if p.1 = b' then (b', v) else p).1 = p.1
  split
  · rename_i e; exact e.symm
  · rfl

section
variable {E : G} {L : Lab} {S : St} {w : World}
theorem Good.knows (h : Good E L S w) {b : Nat} (hb : S.knows b) : (∃ u, w.cell? ⟨b, 0, none⟩ = some u) ∧ w.frozen? ⟨b, 0, none⟩ = false ∧ L b = 5 := by
  obtain ⟨⟨b', u⟩, hm, rfl⟩ := List.mem_map.1 hb
  obtain ⟨r1, r2, r3⟩ := h.rg b' u hm
  exact ⟨⟨u, r1⟩, r2, r3⟩
theorem Good.setR (h : Good E L S w) {b : Nat} (hb : S.knows b) (v : Value) : Good E L (S.setR b v) (w.setCell ⟨b, 0, none⟩ v) := by
  obtain ⟨⟨u0, hc⟩, hf, hl⟩ := h.knows hb
  have hbl : ∀ b', L b' ≠ 5 → (w.setCell ⟨b, 0, none⟩ v).heap[b']? = w.heap[b']? := fun b' hl' => Below.heap_setCell _ _ _ _ (by intro e; have e : b' = b := e; subst e; exact hl' hl)
  have cc : ∀ b' o, L b' ≠ 5 → (w.setCell ⟨b, 0, none⟩ v).cell? ⟨b', o, none⟩ = w.cell? ⟨b', o, none⟩ := fun b' o hl' => World.cell?_of_block (a := ⟨b', o, none⟩) (hbl b' hl')
  have lk := h.lk; have lp := h.lp; have la := h.la; have lc := h.lc
  refine ⟨h.ok, (cc _ _ (by omega)).trans h.k0, (cc _ _ (by omega)).trans h.k1, h.pl.mono (hbl _ (by omega)), ?_, h.lg.below (hbl _ (by omega)) (fun g hg _ => ⟨hbl g (by omega), rfl⟩), ?_, lk, lp, la, lc, fun b hb' => h.new b (by simpa [World.setCell] using hb')⟩
  · have := h.ar.below (hbl E.a (by omega)) (hbl E.c (by omega))
    exact ⟨this.a0, this.a1, this.af, this.c0, this.cf, this.ne, this.n2, this.m64, this.cnt2⟩
  · intro b' u hu
    obtain ⟨⟨b2, u2⟩, hm, he⟩ := List.mem_map.1 hu
    obtain ⟨r1, r2, r3⟩ := h.rg b2 u2 hm
    dsimp only at he
    by_cases e : b2 = b
    · rw [if_pos e] at he
      obtain ⟨rfl, rfl⟩ := Prod.mk.inj he
      exact ⟨World.cell?_setCell_same _ _ _ hc, by rw [World.frozen?_setCell]; exact hf, hl⟩
    · rw [if_neg e] at he
      obtain ⟨rfl, rfl⟩ := Prod.mk.inj he
      exact ⟨cell_set_other r1 e, by rw [World.frozen?_setCell]; exact r2, r3⟩
/-- A caller's new variable. -/
theorem Good.newR (h : Good E L S w) (v : Value) (ty : TypeId) :
    Good E (fun b => if b = w.heap.size then 5 else L b) (S.newR w.heap.size v) (w.alloc (.cells #[v] ty)) ∧ Shr L w (fun b => if b = w.heap.size then 5 else L b) (w.alloc (.cells #[v] ty)) := by
  have hb : Below w.heap.size w (w.alloc (.cells #[v] ty)) := (Below.refl _ _).alloc (Nat.le_refl _) _
  have hg := h.below hb
  have hL : ∀ b, b < w.heap.size → (if b = w.heap.size then 5 else L b) = L b := fun b hb => by rw [if_neg (by omega)]
  have hne : ∀ b, L b ≠ 0 → b ≠ w.heap.size := fun b hb e => hb (e ▸ h.new _ (Nat.le_refl _))
  refine ⟨⟨hg.ok, hg.k0, hg.k1, hg.pl, ⟨hg.ar.a0, hg.ar.a1, hg.ar.af, hg.ar.c0, hg.ar.cf, hg.ar.ne, hg.ar.n2, hg.ar.m64, hg.ar.cnt2⟩, ?_, ?_, ?_, ?_, ?_, ?_, ?_⟩, ⟨hb.os, hb.tape, hb.output, hb.size, fun b hb' _ => hb.block b hb', hL⟩⟩
  · exact h.lg.below (hb.block _ (cell_lt h.k0)) (fun g hg hlt => ⟨hb.block g hlt, hL g hlt⟩)
  · intro b v' hv
    rcases List.mem_cons.1 hv with e | hv
    · obtain ⟨rfl, rfl⟩ := Prod.mk.inj e
      exact ⟨by simp, by simp, by simp⟩
    · obtain ⟨r1, r2, r3⟩ := hg.rg b v' hv
      refine ⟨r1, r2, ?_⟩
      rw [if_neg (hne b (by omega))]; exact r3
  · rw [if_neg (hne _ (by have := h.lk; omega))]; exact h.lk
  · rw [if_neg (by have := cell_lt h.pl.c0; dsimp only at this; omega)]; exact h.lp
  · rw [if_neg (hne _ (by have := h.la; omega))]; exact h.la
  · rw [if_neg (hne _ (by have := h.lc; omega))]; exact h.lc
  · intro b hb'
    rw [World.size_alloc] at hb'
    rw [if_neg (by omega)]; exact h.new b (by omega)
end
theorem Good.newR2 {E : G} {L : Lab} {S : St} {w : World} (h : Good E L S w) (v v' : Value) (ty ty' : TypeId) :
    ∃ L', Good E L' ((S.newR w.heap.size v).newR (w.heap.size + 1) v') ((w.alloc (.cells #[v] ty)).alloc (.cells #[v'] ty')) ∧ Shr L w L' ((w.alloc (.cells #[v] ty)).alloc (.cells #[v'] ty')) := by
  obtain ⟨h1, s1⟩ := h.newR v ty
  obtain ⟨h2, s2⟩ := h1.newR v' ty'
  refine ⟨_, ?_, s1.trans s2⟩
  have e : (w.alloc (.cells #[v] ty)).heap.size = w.heap.size + 1 := World.size_alloc _ _
  rw [e] at h2 ⊢
  exact h2
theorem DidP.below_old {t : Nat} {L L' : Lab} {w W W' : World} {n : Nat} (h : DidP (TP t) L W L' W') (hb : Below n w W) (hn : n ≤ w.heap.size) (old : ∀ b, b < n → L b = 0) : Below n w W' :=
  ⟨h.os.trans hb.os, h.tape.trans hb.tape, h.output.trans hb.output, Nat.le_trans hb.size h.size, fun b hlt => (h.block b (Nat.lt_of_lt_of_le hlt (Nat.le_trans hn hb.size)) (by rw [old b hlt]; unfold TP; omega)).trans (hb.block b hlt)⟩

theorem Did.below_old {t : Nat} {L L' : Lab} {w W W' : World} {n : Nat} (h : Did t L W L' W') (hb : Below n w W) (hn : n ≤ w.heap.size) (old : ∀ b, b < n → L b = 0) : Below n w W' := h.toP.below_old hb hn old
/-- Whether a ticket is dead is laid into two variables. -/
def deadR : Nat × Nat → Arg → St → St × Option (K (Nat × Nat))
  | (b1, b2), .b x, S => if S.knows b1 ∧ S.knows b2 then ((S.setR b1 (.bool x)).setR b2 (.bool true), none) else (S.burst, none)
  | _, _, S => (S, none)
theorem deadR_mono : RMono deadR := by
  rintro ⟨b1, b2⟩ a S
  cases a <;> try exact ⟨Nat.le_refl _, Nat.le_refl _⟩
  unfold deadR
  dsimp only
  split
  · exact ⟨Nat.le_refl _, Nat.le_refl _⟩
  · exact ⟨by unfold St.burst; dsimp only; omega, Nat.le_refl _⟩

theorem enters_law15_dead1 : EntersF 19 := enters_of Tryz.func19 (by kernel_rfl) rfl
set_option maxHeartbeats 1000000 in
theorem law15_dead1 {cf : Cf} {E : G} {t n : Nat} {L : Lab} {w : World} (b1 b2 : Nat) :
    ConSim cf deadR E t isB n L w (.func (.func 19) #[] #[.pointer (some ⟨b1, 0, none⟩), .pointer (some ⟨b2, 0, none⟩)]) (.ret (b1, b2)) := by
  refine ⟨_, _, rfl, enters_law15_dead1, ?_⟩
  intro a L' w' S ha hx hg hbd
  cases a with
  | b x =>
    unfold app at hbd ⊢
    unfold deadR at hbd ⊢
    dsimp only at hbd ⊢
    by_cases hk : S.knows b1 ∧ S.knows b2
    · rw [if_pos hk]
      have hg1 := hg.setR hk.1 (.bool x)
      have hk2 : (S.setR b1 (.bool x)).knows b2 := St.knows_setR hk.2
      have hg2 := hg1.setR hk2 (.bool true)
      obtain ⟨⟨u1, c1⟩, f1, l1⟩ := hg.knows hk.1
      obtain ⟨⟨u2, c2⟩, f2, l2⟩ := hg1.knows hk2
      have hd := (Shr.set (w := w') (a := ⟨b1, 0, none⟩) (.bool x) (by show 1 ≤ L' b1; omega) (by show L' b1 < 8; omega)).trans (Shr.set (a := ⟨b2, 0, none⟩) (.bool true) (by show 1 ≤ L' b2; omega) (by show L' b2 < 8; omega))
      show Calls _ _ #[_, _, _] _ _
      have HG := Go.Lib.hid hg2
      have HD := Go.Lib.hid (hd.did t)
      clear hg hg1 hg2 hd hbd hx
      go_enter Tryz.func19, Tryz.ntmps19
      go_wp2
      go_ret
      refine ⟨_, L', rfl, HD.out, HG.out, ?_⟩
      cases n with
      | zero => trivial
      | succ n => rfl
    · rw [if_neg hk] at hbd
      exact (St.burst_no hbd).elim
  | _ => exact absurd ha (by simp [isB])

/-- The parts of a key. -/
theorem key_parts {g n : Nat} (hg : g < 4294967296) (hn : n < 65536) : part ((g * 65536 + 0) * 65536 + n) 0 16 = n ∧ part ((g * 65536 + 0) * 65536 + n) 32 32 = g := by
  unfold part
  constructor <;> omega
theorem state_parts (x : Nat) (hx : x < 18446744073709551616) : part x 0 2 = x % 4 ∧ part x 32 32 = x / 4294967296 := by
  unfold part
  constructor <;> omega

theorem St.get_touch (S : St) (i j : Int) : (S.touch i).get j = S.get j := by
  unfold St.touch
  split <;> rfl
theorem St.touch_cnt (S : St) (i : Int) : (S.touch i).cnt ≤ S.cnt + 1 := by
  unfold St.touch
  split
  · exact Nat.le_refl _
  · exact Nat.le_succ _
theorem St.touch_log (S : St) (i : Int) : (S.touch i).log = S.log := by unfold St.touch; split <;> rfl
theorem St.touch_reg (S : St) (i : Int) : (S.touch i).reg = S.reg := by unfold St.touch; split <;> rfl
theorem St.touch_n (S : St) (i : Int) : (S.touch i).n = S.n := by unfold St.touch; split <;> rfl
theorem St.put_cnt (S : St) (i : Int) (v : Nat) : (S.put i v).cnt ≤ S.cnt + 1 := by
  unfold St.put
  split
  · exact Nat.le_refl _
  · exact Nat.le_succ _
theorem St.put_log (S : St) (i : Int) (v : Nat) : (S.put i v).log = S.log := by unfold St.put; split <;> rfl
theorem St.put_reg (S : St) (i : Int) (v : Nat) : (S.put i v).reg = S.reg := by unfold St.put; split <;> rfl
theorem St.put_n (S : St) (i : Int) (v : Nat) : (S.put i v).n = S.n := by unfold St.put; split <;> rfl
theorem St.has_put (S : St) (i j : Int) (v : Nat) : (S.put i v).has j ↔ S.has j := by unfold St.has; rw [St.put_n]
theorem St.get_put_same (S : St) (i : Int) (v : Nat) (h : S.has i) : (S.put i v).get i = v := by
  unfold St.get
  rw [if_pos ((St.has_put _ _ _ _).2 h)]
  unfold St.put
  rw [if_pos h]
  simp
theorem St.get_put_other (S : St) (i j : Int) (v : Nat) (h : i ≠ j) : (S.put i v).get j = S.get j := by
  unfold St.get
  by_cases hj : S.has j
  · rw [if_pos ((St.has_put _ _ _ _).2 hj), if_pos hj]
    unfold St.put
    split
    · rename_i hi
      dsimp only
      rw [if_neg]
      unfold St.has at *
      omega
    · rfl
  · rw [if_neg (fun q => hj ((St.has_put _ _ _ _).1 q)), if_neg hj]

/-- Asking whether a ticket is dead takes two steps. -/
theorem dead_runs {cf : Cf} {S : St} {b1 b2 : Nat} {t : Int} {x y : Nat} (hx : S.get (cf.key t) = x) (hy : S.get (cf.state (part x 0 16 : Nat)) = y) (hk1 : S.knows b1) (hk2 : S.knows b2) (hc : S.cnt ≤ 1000000) (hl : S.log.length ≤ 1000000) :
    Runs cf deadR (deadK cf t (.ret (b1, b2))) S 2 ((((S.touch (cf.key t)).touch (cf.state (part x 0 16 : Nat))).setR b1 (.bool (decide (¬ (part y 0 2 = 1) ∨ ¬ (((part y 32 32 : Nat) : Int) = (part x 32 32 : Nat)))))).setR b2 (.bool true)) := by
  have t1 := St.touch_cnt S (cf.key t)
  have t2 := St.touch_cnt (S.touch (cf.key t)) (cf.state (part x 0 16 : Nat))
  have t3 := St.touch_log S (cf.key t)
  have t4 := St.touch_log (S.touch (cf.key t)) (cf.state (part x 0 16 : Nat))
  refine .more (S1 := S.touch (cf.key t)) (κ1 := .load (cf.state (part x 0 16 : Nat)) (.deadB (part x 32 32 : Nat) (.ret (b1, b2)))) ?_ ⟨by omega, by rw [t3]; omega⟩ t1 (.last ?_ ⟨?_, ?_⟩ t2)
  · show app cf deadR (.deadA (.ret (b1, b2))) (.w (S.get (cf.key t))) (S.touch (cf.key t)) = _
    rw [hx]
    rfl
  · show app cf deadR (.deadB (part x 32 32 : Nat) (.ret (b1, b2))) (.w ((S.touch (cf.key t)).get (cf.state (part x 0 16 : Nat)))) _ = _
    rw [St.get_touch, hy]
    show (if _ then _ else _) = _
    rw [if_pos]
    constructor
    · unfold St.knows; rw [St.touch_reg, St.touch_reg]; exact hk1
    · unfold St.knows; rw [St.touch_reg, St.touch_reg]; exact hk2
  · show ((S.touch (cf.key t)).touch (cf.state (part x 0 16 : Nat))).cnt ≤ _
    omega
  · show ((S.touch (cf.key t)).touch (cf.state (part x 0 16 : Nat))).log.length ≤ _
    rw [t4, t3]; omega
/-- Where a configuration's places lie. -/
theorem key_at (c : Cf) (i : Nat) (h : i < c.tickets) : c.key i = (c.ticketsAt + 3 * i : Nat) := ticket_at c i h 0
theorem time_at (c : Cf) (i : Nat) (h : i < c.tickets) : c.time i = (c.ticketsAt + 3 * i + 1 : Nat) := ticket_at c i h 1
theorem key_lt (c : Cf) (i : Nat) (h : i < c.tickets) : c.ticketsAt + 3 * i + 2 < c.size := by unfold Cf.size Cf.connsAt; omega
theorem state_lt (c : Cf) (i : Nat) (h : i < c.nodes) : c.nodesAt + 4 * i + 3 < c.ticketsAt := by unfold Cf.ticketsAt; omega

theorem St.get_setR (S : St) (b : Nat) (v : Value) (i : Int) : (S.setR b v).get i = S.get i := rfl
theorem St.get_newR (S : St) (b : Nat) (v : Value) (i : Int) : (S.newR b v).get i = S.get i := rfl
theorem put_cnt1 (c : Cf) (i : Int) (u : Nat) : ((S0 c).put i u).cnt ≤ 4611686018427387904 := by
  have h1 := St.put_cnt (S0 c) i u
  have h0 : (S0 c).cnt = 0 := rfl
  rw [h0] at h1
  exact Nat.le_trans h1 (by decide)
theorem put_cnt2 (c : Cf) (i j : Int) (u v : Nat) : (((S0 c).put i u).put j v).cnt ≤ 4611686018427387904 := by
  have h1 := St.put_cnt (S0 c) i u
  have h0 : (S0 c).cnt = 0 := rfl
  rw [h0] at h1
  have h2 := St.put_cnt ((S0 c).put i u) j v
  exact Nat.le_trans (Nat.le_trans h2 (Nat.succ_le_succ h1)) (by decide)
/-- What there is when a key and a state are written, and there are two variables. -/
def deadS (c : Cf) (t node key state b1 b2 : Nat) : St :=
  (((S0 c).put (c.key t) key).put (c.state node) state).newR b1 (.bool false) |>.newR b2 (.bool false)
theorem deadS_get (c : Cf) (t node key state b1 b2 : Nat) (ht : t < c.tickets) (hn : node < c.nodes) :
    (deadS c t node key state b1 b2).get (c.key t) = key ∧ (deadS c t node key state b1 b2).get (c.state node) = state := by
  have k1 := key_at c t ht
  have k2 := key_lt c t ht
  have s1 := state_at c node hn
  have s2 := state_lt c node hn
  have hsz : c.ticketsAt ≤ c.size := by unfold Cf.size Cf.connsAt; omega
  have h1 : (S0 c).has (c.key t) := by rw [k1]; unfold St.has S0; dsimp only; omega
  have h2 : (S0 c).has (c.state node) := by rw [s1]; unfold St.has S0; dsimp only; omega
  have hne : c.state node ≠ c.key t := by rw [k1, s1]; omega
  constructor
  · unfold deadS
    rw [St.get_newR, St.get_newR, St.get_put_other _ _ _ _ hne, St.get_put_same _ _ _ h1]
  · unfold deadS
    rw [St.get_newR, St.get_newR, St.get_put_same _ _ _ ((St.has_put _ _ _ _).2 h2)]
theorem deadS_cnt (c : Cf) (t node key state b1 b2 : Nat) : (deadS c t node key state b1 b2).cnt ≤ 2 := by
  have h1 := St.put_cnt (S0 c) (c.key t) key
  have h2 := St.put_cnt ((S0 c).put (c.key t) key) (c.state node) state
  show (((S0 c).put (c.key t) key).put (c.state node) state).cnt ≤ 2
  have : (S0 c).cnt = 0 := rfl
  omega
theorem deadS_log (c : Cf) (t node key state b1 b2 : Nat) : (deadS c t node key state b1 b2).log = [] := by
  show (((S0 c).put (c.key t) key).put (c.state node) state).log = []
  rw [St.put_log, St.put_log]
  rfl
theorem put_reg0 (c : Cf) (i j : Int) (u v : Nat) : (((S0 c).put i u).put j v).reg = [] := by rw [St.put_reg, St.put_reg]; rfl
theorem deadS_reg (c : Cf) (t node key state b1 b2 : Nat) (h : b1 ≠ b2) (v1 v2 : Value) (i j : Int) :
    (((((deadS c t node key state b1 b2).touch i).touch j).setR b1 v1).setR b2 v2).reg = [(b2, v2), (b1, v1)] := by
  unfold St.setR
  dsimp only
  rw [St.touch_reg, St.touch_reg]
  unfold deadS St.newR
  dsimp only
  rw [put_reg0]
  simp [h, Ne.symm h]
theorem deadS_knows (c : Cf) (t node key state b1 b2 : Nat) : (deadS c t node key state b1 b2).knows b1 ∧ (deadS c t node key state b1 b2).knows b2 := by
  unfold deadS
  constructor
  · unfold St.knows St.newR
    simp
  · unfold St.knows St.newR
    simp

end Go.Proofs.YtlbjjooiiikmjaaGreat

