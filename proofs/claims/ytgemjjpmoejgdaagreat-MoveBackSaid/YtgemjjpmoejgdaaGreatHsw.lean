/- A timer that is moved to and fro, without a program. -/
import Derived.Test.YtgemjjpmoejgdaaGreatHsv
namespace Go.Proofs.YtgemjjpmoejgdaaGreat
open Go.RowKit
set_option maxRecDepth 100000
set_option linter.unusedVariables false

/-- Behind j moves of node 0's timer, the last one to shard last. -/
structure Moved (c : Cf) (R : ShopR) (j last : Nat) : Prop where
  bl : R.boxes.length = c.workers
  nl : R.nodes.length = c.nodes
  gen : (R.nodes.getD 0 default).gen = c.first + 1
  st : (R.nodes.getD 0 default).status = 1
  home0 : j = 0 → (R.nodes.getD 0 default).hgen = 0
  home : 0 < j → (R.nodes.getD 0 default).hgen = c.first + 1 ∧ (R.nodes.getD 0 default).hver = j ∧ (R.nodes.getD 0 default).hshard = last
  tk : R.tickets + 1 + j = c.tickets
  all : ∀ s t, s < c.workers → t ∈ R.boxes.getD s [] → t.node = 0 ∧ t.gen = c.first + 1 ∧ t.ver ≤ j ∧ (t.ver = j → s = last)
  one : ((R.boxes.getD last []).filter fun t => decide (t.ver = j)).length = 1
  ll : last < c.workers
theorem deadR_no {N : List NodeR} {t : TickR} (h0 : t.node < N.length) (h1 : (N.getD t.node default).status = 1) (h2 : (N.getD t.node default).gen = t.gen) : deadR N t = false := by
  have hg : N[t.node]? = some (N.getD t.node default) := by
    rw [List.getD_eq_getElem?_getD, List.getElem?_eq_getElem h0]
    rfl
  unfold deadR
  rw [hg]
  simp only [Option.any_some, h1, h2]
  simp
theorem while_none {α : Type} (p : α → Bool) : ∀ l : List α, (∀ u ∈ l, p u = false) → l.takeWhile p = [] ∧ l.dropWhile p = l
  | [], _ => ⟨rfl, rfl⟩
  | x :: l, h => by
    have hx := h x (List.mem_cons_self ..)
    constructor
    · rw [List.takeWhile_cons, hx]; rfl
    · rw [List.dropWhile_cons, hx]; rfl
theorem lay_alive (R : ShopR) (s : Nat) (t : TickR) (h : ∀ u ∈ R.boxes.getD s [], deadR R.nodes u = false) : layR R s t = { R with boxes := R.boxes.set s (t :: R.boxes.getD s []) } := by
  obtain ⟨h1, h2⟩ := while_none _ _ h
  unfold layR
  rw [h1, h2]
  rfl
theorem moved_start {c : Cf} (hok : c.Ok) (hf : c.first ≠ 4294967295) (ht : 1 ≤ c.tickets) :
    Moved c (startR c.slack (freshR c) 9 0 0).1 0 0 ∧ (startR c.slack (freshR c) 9 0 0).2 = (0, ((c.first + 1 : Nat) : Int), 0) := by
  have hw := hok.w1
  have hn := hok.n1
  obtain ⟨n, hn'⟩ : ∃ n, c.nodes = n + 1 := ⟨c.nodes - 1, by omega⟩
  have hfree : (freshR c).free = 0 :: List.range' 1 n := by show List.range' 0 c.nodes = _; rw [hn']; rfl
  have hbl : (freshR c).boxes.length = c.workers := by show (List.replicate _ _).length = _; simp
  have hnl : (freshR c).nodes.length = c.nodes := by show (List.replicate _ _).length = _; simp
  have hn0 : (freshR c).nodes.getD 0 default = { gen := c.first, time := 0, status := 0, user := 0, hgen := 0, hver := 0, hshard := 0 } := by show (List.replicate _ _).getD 0 _ = _; rw [hn']; rfl
  have hb : ∀ s, (freshR c).boxes.getD s [] = [] := by
    intro s
    show (List.replicate _ _).getD s _ = _
    rw [List.getD_eq_getElem?_getD, List.getElem?_replicate]
    split <;> rfl
  have htk : (freshR c).tickets = c.tickets := rfl
  have hcl : (freshR c).clock = 0 := rfl
  have hs : shardR (freshR c) 0 := by unfold shardR; rw [hbl]; omega
  generalize freshR c = F at *
  unfold startR
  rw [if_neg (by intro h; rcases h with h | h | h <;> first | omega | exact h hs), if_neg (by rw [hcl]; omega), hfree]
  dsimp only
  rw [hn0]
  dsimp only
  rw [if_neg hf, if_neg (by omega)]
  rw [lay_alive _ _ _ (by show ∀ u ∈ F.boxes.getD 0 [], _; rw [hb]; intro u hu; cases hu)]
  refine ⟨?_, rfl⟩
  refine ⟨?_, ?_, ?_, ?_, ?_, ?_, ?_, ?_, ?_, ?_⟩
  · show (F.boxes.set _ _).length = _; rw [List.length_set]; exact hbl
  · show (F.nodes.set _ _).length = _; rw [List.length_set]; exact hnl
  · show ((F.nodes.set 0 _).getD 0 default).gen = _; rw [getD_set_eq _ _ _ _ (by omega)]
  · show ((F.nodes.set 0 _).getD 0 default).status = _; rw [getD_set_eq _ _ _ _ (by omega)]
  · intro _; show ((F.nodes.set 0 _).getD 0 default).hgen = _; rw [getD_set_eq _ _ _ _ (by omega)]
  · intro h; omega
  · show F.tickets - 1 + 1 + 0 = _; omega
  · intro s t hs' ht'
    replace ht' : t ∈ (F.boxes.set 0 [(⟨0, c.first + 1, 0, dueR c.slack (F.clock + Int.toNat 9)⟩ : TickR)]).getD s [] := by
      have e : (Int.toNat 0) = 0 := rfl
      have := ht'
      rw [show F.boxes.getD (Int.toNat 0) [] = [] from hb _] at this
      exact this
    by_cases h0 : s = 0
    · subst h0
      rw [getD_set_eq _ _ _ _ (by omega)] at ht'
      rw [List.mem_singleton] at ht'
      subst ht'
      exact ⟨rfl, rfl, Nat.le_refl _, fun _ => rfl⟩
    · rw [getD_set_ne' _ _ _ h0, hb] at ht'
      cases ht'
  · show (((F.boxes.set 0 _).getD 0 []).filter _).length = 1
    rw [getD_set_eq _ _ _ _ (by omega)]
    show (((⟨0, c.first + 1, 0, dueR c.slack (F.clock + Int.toNat 9)⟩ : TickR) :: F.boxes.getD 0 []).filter _).length = 1
    rw [hb]
    rfl
  · omega
theorem moved_step {c : Cf} {R : ShopR} {j last s : Nat} (h : Moved c R j last) (hn : 0 < c.nodes) (hj : j + 1 < c.tickets) (hj2 : j ≤ 100) (hs : s < c.workers) :
    Moved c (migrateR c.slack R 0 ((c.first + 1 : Nat) : Int) (s : Int)).1 (j + 1) s ∧ (migrateR c.slack R 0 ((c.first + 1 : Nat) : Int) (s : Int)).2 = 0 := by
  have hsh : shardR R (s : Int) := by unfold shardR; rw [h.bl]; omega
  have hnd : nodeR R 0 := by unfold nodeR; rw [h.nl]; omega
  have harm : armedR R 0 ((c.first + 1 : Nat) : Int) = true := by
    unfold armedR
    exact decide_eq_true ⟨hnd, h.st, congrArg _ h.gen⟩
  have hver : versionR R 0 ((c.first + 1 : Nat) : Int) = j := by
    unfold versionR
    show (if (((R.nodes.getD 0 default).hgen : Nat) : Int) = _ then (R.nodes.getD 0 default).hver else 0) = j
    by_cases h0 : j = 0
    · subst h0
      rw [h.home0 rfl, if_neg (by omega)]
    · obtain ⟨e1, e2, _⟩ := h.home (by omega)
      rw [e1, e2, if_pos rfl]
  have htk := h.tk
  have hnl := h.nl
  have hbl := h.bl
  unfold migrateR
  rw [if_neg (fun q => q hsh), if_neg (by rw [harm]; decide), if_neg (by rw [hver]; omega), if_neg (by omega), hver]
  have hset : ∀ nd : NodeR, (R.nodes.set (Int.toNat 0) nd).getD 0 default = nd := fun nd => getD_set_eq _ _ _ _ (by show 0 < R.nodes.length; omega)
  rw [lay_alive _ _ _ (by
    intro u hu
    replace hu : u ∈ R.boxes.getD s [] := hu
    obtain ⟨u1, u2, _, _⟩ := h.all s u hs hu
    refine deadR_no ?_ ?_ ?_
    · show u.node < (R.nodes.set _ _).length; rw [List.length_set, u1]; omega
    · rw [u1]; show ((R.nodes.set (Int.toNat 0) _).getD 0 default).status = 1; rw [hset]; exact h.st
    · rw [u1, u2]; show ((R.nodes.set (Int.toNat 0) _).getD 0 default).gen = _; rw [hset]; exact h.gen)]
  refine ⟨?_, rfl⟩
  have hmem : ∀ (s' : Nat) (t : TickR) (x : TickR), s' < c.workers → t ∈ (R.boxes.set s (x :: R.boxes.getD s [])).getD s' [] → t ∈ R.boxes.getD s' [] ∨ (s' = s ∧ t = x) := by
    intro s' t x hs' ht'
    by_cases h0 : s' = s
    · subst h0
      rw [getD_set_eq _ _ _ _ (by omega)] at ht'
      rcases List.mem_cons.1 ht' with e | e
      · exact .inr ⟨rfl, e⟩
      · exact .inl e
    · rw [getD_set_ne' _ _ _ h0] at ht'
      exact .inl ht'
  refine ⟨?_, ?_, ?_, ?_, ?_, ?_, ?_, ?_, ?_, ?_⟩
  · show (R.boxes.set _ _).length = _; rw [List.length_set]; exact hbl
  · show (R.nodes.set _ _).length = _; rw [List.length_set]; exact hnl
  · show ((R.nodes.set (Int.toNat 0) _).getD 0 default).gen = _; rw [hset]; exact h.gen
  · show ((R.nodes.set (Int.toNat 0) _).getD 0 default).status = _; rw [hset]; exact h.st
  · intro e; omega
  · intro _
    show ((R.nodes.set (Int.toNat 0) _).getD 0 default).hgen = _ ∧ ((R.nodes.set (Int.toNat 0) _).getD 0 default).hver = _ ∧ ((R.nodes.set (Int.toNat 0) _).getD 0 default).hshard = _
    rw [hset]
    exact ⟨rfl, rfl, rfl⟩
  · show R.tickets - 1 + 1 + (j + 1) = _; omega
  · intro s' t hs' ht'
    rcases hmem s' t _ hs' ht' with e | ⟨e1, e2⟩
    · obtain ⟨u1, u2, u3, _⟩ := h.all s' t hs' e
      exact ⟨u1, u2, by omega, fun q => by omega⟩
    · subst e2
      exact ⟨rfl, rfl, Nat.le_refl _, fun _ => e1⟩
  · show (((R.boxes.set s (_ :: R.boxes.getD s [])).getD s []).filter _).length = 1
    rw [getD_set_eq _ _ _ _ (by omega)]
    rw [List.filter_cons]
    rw [if_pos (decide_eq_true rfl)]
    rw [List.filter_eq_nil_iff.2 (fun u hu => by
      obtain ⟨_, _, u3, _⟩ := h.all s u hs hu
      simp
      omega)]
    rfl
  · exact hs
/-- How many of a box's tickets are the newest. -/
theorem moved_box {c : Cf} {R : ShopR} {j last : Nat} (h : Moved c R j last) {s : Nat} (hs : s < c.workers) : (R.boxes.getD s []).countP (fun t => decide (t.ver = j)) = if s = last then 1 else 0 := by
  rw [List.countP_eq_length_filter]
  by_cases e : s = last
  · rw [if_pos e, e]
    exact h.one
  · rw [if_neg e, List.filter_eq_nil_iff.2 (fun u hu => by
      obtain ⟨_, _, _, u4⟩ := h.all s u hs hu
      simp
      exact fun q => e (u4 q))]
    rfl

/-- A caller's continuation of a handle that writes it down. -/
def takeH : Nat × Nat → Arg → St → St × Option (K (PR (Nat × Nat)))
  | a, .he n g _, S => if S.knows (a.1, 0) ∧ S.knows (a.1, 1) then ((S.setR (a.1, 0) (.int .i64 n)).setR (a.1, 1) (.int .i64 g), none) else (S.burst, none)
  | _, _, S => (S, none)
theorem takeH_mono : ∀ (r : Nat × Nat) (a : Arg) (S : St), S.cnt ≤ (takeH r a S).1.cnt ∧ S.log.length ≤ (takeH r a S).1.log.length := by
  intro r a S
  cases a <;> try exact ⟨Nat.le_refl _, Nat.le_refl _⟩
  unfold takeH
  dsimp only
  split
  · exact ⟨Nat.le_refl _, Nat.le_refl _⟩
  · exact ⟨by unfold St.burst; dsimp only; omega, Nat.le_refl _⟩
theorem takeH_ok (a : Nat × Nat) (n g e : Int) (S : St) (h0 : S.knows (a.1, 0)) (h1 : S.knows (a.1, 1)) : takeH a (.he n g e) S = ((S.setR (a.1, 0) (.int .i64 n)).setR (a.1, 1) (.int .i64 g), none) := if_pos ⟨h0, h1⟩
theorem takeH_no (a : Nat × Nat) (n g e : Int) (S : St) (h : ¬ (S.knows (a.1, 0) ∧ S.knows (a.1, 1))) : takeH a (.he n g e) S = (S.burst, none) := if_neg h
/-- A caller's continuation of an error that writes down whether there is none. -/
def okE := onE (fun _ => true) (fun e => .bool (decide (e = 0)))
theorem okE_mono : ∀ (r : Nat × Nat) (a : Arg) (S : St), S.cnt ≤ (okE r a S).1.cnt ∧ S.log.length ≤ (okE r a S).1.log.length := onE_mono _ _
theorem okE_ok (a : Nat × Nat) (x : Int) (S : St) (hk : S.knows a) : okE a (.e x) S = (S.setR a (.bool (decide (x = 0))), none) := onE_e _ _ a x S rfl hk
/-- What is there behind j moves. -/
structure Back (c : Cf) (S : St) (hb j last : Nat) : Prop where
  n : S.n = c.size
  rel : ∃ R fn ft bx, RelR c S.m R fn ft bx ∧ Moved c R j last
  cnt : S.cnt ≤ 300 * (j + 1)
  log : S.log.length ≤ j + 1
  h0 : S.reads (hb, 0) (.int .i64 0)
  h1 : S.reads (hb, 1) (.int .i64 ((c.first + 1 : Nat) : Int))
theorem back_start {c : Cf} {S : St} {hb : Nat} (hok : c.Ok) (hf : c.first ≠ 4294967295) (ht : c.tickets ≤ 30) (hn : S.n = c.size) (hm : S.m = freshM c) (hc : S.cnt = 0) (hl : S.log = []) (hk0 : S.knows (hb, 0)) (hk1 : S.knows (hb, 1)) :
    ∃ m T, 1 ≤ m ∧ m ≤ 60 + 10 * c.tickets ∧ RunsF c (prApp c takeH) (startK c 0 9 0 0 (.user (hb, 0))) S m T ∧ Back c T hb 0 0 := by
  have hr : RelR c S.m (freshR c) (List.range' 0 c.nodes) (List.range' 0 c.tickets) (fun _ => []) := (rel_fresh hok).of_m hm
  obtain ⟨hmv, he⟩ := moved_start hok hf hok.t1
  have h := start_rel (R0 := takeH) (wk := 0) (ticks := 9) (shard := 0) (user := 0) (k := .user (hb, 0)) hok hn hr (by omega)
  rw [he] at h
  obtain ⟨d, T, fn', ft', bx', h1, h2, hrel, hTn, hTr, _, hTc, ⟨e, hTl⟩, hrun⟩ := h.runs (prApp_mono c takeH takeH_mono)
  have k0 : T.knows (hb, 0) := knows_reg hTr hk0
  have k1 : T.knows (hb, 1) := knows_reg hTr hk1
  obtain ⟨m, hm1, hm2, hrn⟩ := hrun _ (takeH_ok (hb, 0) 0 ((c.first + 1 : Nat) : Int) 0 T k0 k1) ⟨by show T.cnt ≤ _; omega, by show T.log.length ≤ _; rw [hTl, hl]; simp⟩
  refine ⟨m, _, hm1, by omega, hrn, ⟨hTn.trans hn, ⟨_, _, _, _, hrel, hmv⟩, by show T.cnt ≤ _; omega, by show T.log.length ≤ _; rw [hTl, hl]; simp, ?_, ?_⟩⟩
  · exact St.setR_reads_other (St.setR_reads k0) (by simp)
  · exact St.setR_reads (St.knows_setR.2 k1)
theorem back_move {c : Cf} {S : St} {hb j last s ob : Nat} (hok : c.Ok) (ht : c.tickets ≤ 30) (h : Back c S hb j last) (hj : j + 1 < c.tickets) (hs : s < c.workers) (hne : hb ≠ ob) :
    ∃ m T, 1 ≤ m ∧ m ≤ 60 + 10 * c.tickets ∧ RunsF c (prApp c okE) (migrateK c 0 0 ((c.first + 1 : Nat) : Int) (s : Int) (.user (ob, 0))) (S.newR ob [.bool false]) m T ∧ Back c T hb (j + 1) s ∧ T.reads (ob, 0) (.bool true) := by
  obtain ⟨R, fn, ft, bx, hr, hmv⟩ := h.rel
  have hr' : RelR c (S.newR ob [.bool false]).m R fn ft bx := hr
  obtain ⟨hmv', he⟩ := moved_step hmv hok.n1 hj (by omega) hs
  have h' := migrate_rel (R0 := okE) (w := 0) (n := 0) (g := ((c.first + 1 : Nat) : Int)) (s := (s : Int)) (k := .user (ob, 0)) hok (S := S.newR ob [.bool false]) h.n hr'
  rw [he] at h'
  obtain ⟨d, T, fn', ft', bx', h1, h2, hrel, hTn, hTr, _, hTc, ⟨e, hTl⟩, hrun⟩ := h'.runs (prApp_mono c okE okE_mono)
  have k0 : T.knows (ob, 0) := knows_reg hTr (St.newR_knows S ob [.bool false] (by decide))
  have hcn := h.cnt
  have hlg := h.log
  have hTc' : T.cnt ≤ S.cnt + d := hTc
  have hTl' : T.log = S.log ++ [e] := hTl
  obtain ⟨m, hm1, hm2, hrn⟩ := hrun _ (okE_ok (ob, 0) 0 T k0) ⟨by show T.cnt ≤ _; omega, by show T.log.length ≤ _; rw [hTl', List.length_append]; show S.log.length + 1 ≤ _; omega⟩
  have keep : ∀ (i : Nat) (v : Value), S.reads (hb, i) v → (T.setR (ob, 0) (.bool (decide ((0 : Int) = 0)))).reads (hb, i) v := fun i v hv => by
    refine St.setR_reads_other ?_ (fun q => hne (congrArg Prod.fst q))
    have := St.newR_reads_old (b := ob) (vs := [.bool false]) hv
    unfold St.reads at this ⊢
    rw [hTr]
    exact this
  exact ⟨m, _, hm1, by omega, hrn, ⟨hTn.trans h.n, ⟨_, _, _, _, hrel, hmv'⟩, by show T.cnt ≤ _; omega, by show T.log.length ≤ _; rw [hTl', List.length_append]; show S.log.length + 1 ≤ _; omega, keep 0 _ h.h0, keep 1 _ h.h1⟩, St.setR_reads k0⟩
end Go.Proofs.YtgemjjpmoejgdaaGreat
/- A caller's own slice grows. -/
namespace Go.Proofs.YtgemjjpmoejgdaaGreat
open Go.RowKit
set_option maxRecDepth 100000
set_option linter.unusedVariables false

end Go.Proofs.YtgemjjpmoejgdaaGreat
/- Deeds in memory; deeds as Starts, Cancels and Rearms. -/
namespace Go.Proofs.YtgemjjpmoejgdaaGreat
open Go.RowKit
set_option maxRecDepth 100000
set_option linter.unusedVariables false

theorem Env.toDidP {t : Nat} {L L' : Lab} {w w' : World} {env : List (Nat × List Value)} (h : Env L w env) (hx : DidP (TP t) L w L' w') : Env L' w' env := fun p hp =>
  ⟨(hx.lab _ (h p hp).2.1).trans (h p hp).1, Nat.lt_of_lt_of_le (h p hp).2.1 hx.size, fun i v hi => hx.cell ((h p hp).2.2 i v hi) (by rw [(h p hp).1]; unfold TP; omega)⟩
/-- A deed's cells at an address. -/
structure DeedAt (w : World) (a : Addr) (d : DeedR) : Prop where
  c0 : w.cell? a = some (.int .i64 d.op)
  c1 : w.cell? ⟨a.block, a.off + 1, none⟩ = some (.int .i64 d.hn)
  c2 : w.cell? ⟨a.block, a.off + 2, none⟩ = some (.int .i64 d.hg)
  c3 : w.cell? ⟨a.block, a.off + 3, none⟩ = some (.int .i64 d.time)
  c4 : w.cell? ⟨a.block, a.off + 4, none⟩ = some (.int .i64 d.arg)
  c5 : w.cell? ⟨a.block, a.off + 5, none⟩ = some (.int .i64 d.user)
/-- A slice of deeds. -/
def DeedsRow (w : World) (v : Value) (ds : List DeedR) : Prop := ∃ p c, v = .slice p ds.length c ∧ ∀ i d, ds[i]? = some d → ∃ a, p = some a ∧ DeedAt w (a.add (i * 6)) d
/-- A slice of slices of deeds. -/
def DeedsTab (w : World) (base : Nat) (v : Value) (dss : List (List DeedR)) : Prop := ∃ p c, v = .slice p dss.length c ∧ ∀ i ds, dss[i]? = some ds → ∃ a u, p = some a ∧ w.cell? (a.add i) = some u ∧ DeedsRow w u ds ∧ ∀ g, u.ownBlock = some g → base ≤ g
theorem add_block (a : Addr) (n : Nat) : (a.add n).block = a.block := by unfold Addr.add; split <;> rfl
theorem DeedAt.lt {w : World} {a : Addr} {d : DeedR} (h : DeedAt w a d) : a.block < w.heap.size := cell_lt h.c0
theorem DeedAt.mono {w w' : World} {a : Addr} {d : DeedR} (h : DeedAt w a d) (hb : w'.heap[a.block]? = w.heap[a.block]?) : DeedAt w' a d :=
  ⟨(World.cell?_of_block hb).trans h.c0, (World.cell?_of_block (a := ⟨a.block, a.off + 1, none⟩) hb).trans h.c1, (World.cell?_of_block (a := ⟨a.block, a.off + 2, none⟩) hb).trans h.c2, (World.cell?_of_block (a := ⟨a.block, a.off + 3, none⟩) hb).trans h.c3, (World.cell?_of_block (a := ⟨a.block, a.off + 4, none⟩) hb).trans h.c4, (World.cell?_of_block (a := ⟨a.block, a.off + 5, none⟩) hb).trans h.c5⟩
theorem DeedsRow.mono {w w' : World} {v : Value} {ds : List DeedR} (h : DeedsRow w v ds) (hb : ∀ g, v.ownBlock = some g → g < w.heap.size → w'.heap[g]? = w.heap[g]?) : DeedsRow w' v ds := by
  obtain ⟨p, c, rfl, h1⟩ := h
  refine ⟨p, c, rfl, fun i d hi => ?_⟩
  obtain ⟨a, rfl, h2⟩ := h1 i d hi
  refine ⟨a, rfl, h2.mono ?_⟩
  have hlt := h2.lt
  rw [add_block] at hlt ⊢
  exact hb a.block rfl hlt
theorem DeedsRow.below {w w' : World} {v : Value} {ds : List DeedR} (h : DeedsRow w v ds) (hb : Below w.heap.size w w') : DeedsRow w' v ds := h.mono fun g _ hlt => hb.block g hlt
theorem DeedsTab.below {w w' : World} {base : Nat} {v : Value} {dss : List (List DeedR)} (h : DeedsTab w base v dss) (hb : Below w.heap.size w w') : DeedsTab w' base v dss := by
  obtain ⟨p, c, rfl, h1⟩ := h
  refine ⟨p, c, rfl, fun i ds hi => ?_⟩
  obtain ⟨a, u, rfl, h2, h3, h4⟩ := h1 i ds hi
  exact ⟨a, u, rfl, below_cell hb h2, h3.below hb, h4⟩
/-- A slice of deeds that is nobody's. -/
def DeedsRowL (L : Lab) (w : World) (v : Value) (ds : List DeedR) : Prop := ∃ p c, v = .slice p ds.length c ∧ ∀ i d, ds[i]? = some d → ∃ a, p = some a ∧ L a.block = 0 ∧ DeedAt w (a.add (i * 6)) d
theorem DeedsRow.lab {L : Lab} {w : World} {v : Value} {ds : List DeedR} (h : DeedsRow w v ds) (hl : ∀ g, v.ownBlock = some g → L g = 0) : DeedsRowL L w v ds := by
  obtain ⟨p, c, rfl, h1⟩ := h
  refine ⟨p, c, rfl, fun i d hi => ?_⟩
  obtain ⟨a, rfl, h2⟩ := h1 i d hi
  exact ⟨a, rfl, hl a.block rfl, h2⟩
theorem DeedsRowL.below {L : Lab} {w w' : World} {v : Value} {ds : List DeedR} (h : DeedsRowL L w v ds) (hb : Below w.heap.size w w') : DeedsRowL L w' v ds := by
  obtain ⟨p, c, rfl, h1⟩ := h
  refine ⟨p, c, rfl, fun i d hi => ?_⟩
  obtain ⟨a, rfl, h0, h2⟩ := h1 i d hi
  exact ⟨a, rfl, h0, h2.mono (hb.block _ h2.lt)⟩
end Go.Proofs.YtgemjjpmoejgdaaGreat
