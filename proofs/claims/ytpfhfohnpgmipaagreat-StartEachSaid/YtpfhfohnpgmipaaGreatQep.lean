/- The law StartEach: what each Start leaves, and what the law's continuation writes down. -/
import Derived.Test.YtpfhfohnpgmipaaGreatQeo
namespace Go.Proofs.YtpfhfohnpgmipaaGreat
open Go.RowKit
set_option maxRecDepth 100000
set_option linter.unusedVariables false

def isF : Value → Bool
  | .bool b => !b
  | _ => false
theorem isF_eq {v : Value} (h : isF v = true) : v = .bool false := by
  cases v <;> simp [isF] at h
  rw [h]
/-- Does a variable hold false? -/
def St.readsF (S : St) (a : Nat × Nat) : Bool := S.reg.any fun p => decide (p.1 = a) && isF p.2
theorem St.readsF_reads {S : St} {a : Nat × Nat} (h : S.readsF a = true) : S.reads a (.bool false) := by
  unfold St.readsF at h
  obtain ⟨p, hp, h2⟩ := List.any_eq_true.1 h
  simp only [Bool.and_eq_true, decide_eq_true_eq] at h2
  obtain ⟨a', v⟩ := p
  obtain ⟨rfl, h3⟩ := h2
  unfold St.reads
  rw [← isF_eq h3]
  exact hp
theorem St.readsF_knows {S : St} {a : Nat × Nat} (h : S.readsF a = true) : S.knows a := List.mem_map.2 ⟨_, St.readsF_reads h, rfl⟩
theorem St.readsF_setR {S : St} {a b : Nat × Nat} {v : Value} (h : S.readsF a = true) (hne : a ≠ b) : (S.setR b v).readsF a = true := by
  have hr := St.readsF_reads h
  unfold St.readsF St.setR
  refine List.any_eq_true.2 ⟨(a, .bool false), List.mem_map.2 ⟨(a, .bool false), hr, ?_⟩, by simp [isF]⟩
  rw [if_neg hne]
theorem St.readsF_newR {S : St} {a : Nat × Nat} {b : Nat} {vs : List Value} (h : S.readsF a = true) : (S.newR b vs).readsF a = true := by
  have hr := St.readsF_reads h
  unfold St.readsF St.newR
  exact List.any_eq_true.2 ⟨(a, .bool false), List.mem_append.2 (.inr hr), by simp [isF]⟩
theorem St.newR_readsF {S : St} {b n i : Nat} (hi : i < n) : (S.newR b (List.replicate n (.bool false))).readsF (b, i) = true := by
  unfold St.readsF St.newR regsOf
  refine List.any_eq_true.2 ⟨((b, i), .bool false), List.mem_append.2 (.inl (List.mem_map.2 ⟨(.bool false, i), List.mem_zipIdx_iff_getElem?.2 ?_, rfl⟩)), by simp [isF]⟩
  simp [hi]

theorem Env.head_eq {L : Lab} {w : World} {env : List (Nat × List Value)} {b : Nat} {vs vs' : List Value} (h : Env L w ((b, vs) :: env)) (e : vs = vs') : Env L w ((b, vs') :: env) := e ▸ h
/-- What the law's continuation writes down. -/
def eachR (first nodes sb room : Nat) : Nat × Nat → Arg → St → St × Option (K (PR (Nat × Nat)))
  | (ob, i), .he n g e, S =>
    if (i = room ∧ n = 0 ∧ g = 0 ∧ e = 3) ∧ S.knows (ob, 0) then (S.setR (ob, 0) (.bool true), none)
    else if (¬ i = room ∧ n = i ∧ g = (first : Int) + 1 ∧ e = 0 ∧ i < 12 ∧ i < nodes ∧ ob ≠ sb) ∧ S.knows (ob, 0) ∧ S.readsF (sb, i) = true then ((S.setR (ob, 0) (.bool true)).setR (sb, i) (.bool true), none)
    else (S.burst, none)
  | _, _, S => (S, none)
theorem eachR_mono (first nodes sb room : Nat) : ∀ (r : Nat × Nat) (a : Arg) (S : St), S.cnt ≤ (eachR first nodes sb room r a S).1.cnt ∧ S.log.length ≤ (eachR first nodes sb room r a S).1.log.length := by
  rintro ⟨ob, i⟩ a S
  cases a <;> try exact ⟨Nat.le_refl _, Nat.le_refl _⟩
  unfold eachR
  dsimp only
  split
  · exact ⟨Nat.le_refl _, Nat.le_refl _⟩
  · split
    · exact ⟨Nat.le_refl _, Nat.le_refl _⟩
    · exact ⟨by unfold St.burst; dsimp only; omega, Nat.le_refl _⟩

/-- What there is behind so many Starts. -/
structure Each (c : Cf) (sb : Nat) (S : St) (i : Nat) : Prop where
  n : S.n = c.size
  m0 : S.m 0 = 0
  ex : ∃ bx, Shop c S.m (List.range' i (c.nodes - i)) (List.range' i (c.tickets - i)) bx ∧ ∀ s, s < c.workers → ∀ t ∈ bx s, deadM c S.m t = false
  state : ∀ j, i ≤ j → j < c.nodes → S.m (c.nodesAt + 4 * j) = freshW c
  seen : ∀ j, i ≤ j → j < 12 → S.readsF (sb, j) = true
  cnt : S.cnt ≤ 20 * i
  log : S.log.length ≤ i
theorem each_start {c : Cf} (hok : c.Ok) (sb : Nat) : Each c sb ((S0 c).newR sb (List.replicate 12 (.bool false))) 0 where
  n := rfl
  m0 := freshM_zero hok
  ex := ⟨fun _ => [], shop_fresh hok, fun _ _ _ h => by cases h⟩
  state := fun j _ hj => freshM_state j hj
  seen := fun j _ hj => St.newR_readsF hj
  cnt := Nat.le_refl _
  log := Nat.le_refl _
theorem takeWhile_none {p : Nat → Bool} : ∀ {l : List Nat}, (∀ x ∈ l, p x = false) → l.takeWhile p = [] ∧ l.dropWhile p = l
  | [], _ => ⟨rfl, rfl⟩
  | x :: l, h => by
    have hx := h x (List.mem_cons_self ..)
    rw [List.takeWhile_cons, List.dropWhile_cons, hx]
    exact ⟨rfl, rfl⟩
theorem deadM_false {c : Cf} {m : Nat → Nat} {t : Nat} : deadM c m t = false ↔ part (m (c.nodesAt + 4 * part (m (c.ticketsAt + 3 * t)) 0 16)) 0 2 = 1 ∧ part (m (c.nodesAt + 4 * part (m (c.ticketsAt + 3 * t)) 0 16)) 32 32 = part (m (c.ticketsAt + 3 * t)) 32 32 := by
  unfold deadM
  rw [decide_eq_false_iff_not]
  omega
theorem freshW_status {c : Cf} (hok : c.Ok) : part (freshW c) 0 2 = 0 ∧ part (freshW c) 32 32 = c.first := by
  have h := state_parts3 c.first 0 0 (by have := hok.f2; omega) (by decide) (by decide)
  exact ⟨h.2.2, h.1⟩
theorem each_step {c : Cf} (hok : c.Ok) (hf : c.first ≠ 4294967295) (hn : c.nodes ≤ 12) {sb ob i ticks s : Nat} (hsb : ob ≠ sb) (hti : ticks ≤ 255) (hs : s < c.workers) (wk : Int) {S : St} (h : Each c sb S i) (hi : i ≤ min c.nodes c.tickets) :
    ∃ m S', m ≤ 400 ∧ RunsF c (prApp c (eachR c.first c.nodes sb (min c.nodes c.tickets))) (startK c wk ticks s i (.user (ob, i))) (S.newR ob [.bool false]) m S' ∧ S'.reads (ob, 0) (.bool true) ∧ (i < min c.nodes c.tickets → Each c sb S' (i + 1)) := by
  obtain ⟨bx, hsh, hal⟩ := h.ex
  have hmono := prApp_mono c _ (eachR_mono c.first c.nodes sb (min c.nodes c.tickets))
  have hko : (S.newR ob [.bool false]).knows (ob, 0) := St.newR_knows S ob _ (by decide)
  have hw : ¬ ((ticks : Int) < 0 ∨ (i : Int) < 0 ∨ (s : Int) < 0 ∨ (c.workers : Int) ≤ (s : Int)) := by omega
  have n9 := hok.nodesAt_le
  have hnt : c.ticketsAt = c.nodesAt + 4 * c.nodes := rfl
  have hib := inb_bd hs
  have t1 := h.m0
  have t2 := h.n
  have t3 := h.cnt
  have t4 := h.log
  have t5 := h.state
  have t6 : ∀ j, i ≤ j → j < 12 → (S.newR ob [.bool false]).readsF (sb, j) = true := fun j a b => St.readsF_newR (h.seen j a b)
  have e1 : (S.newR ob [.bool false]).m = S.m := rfl
  have e2 : (S.newR ob [.bool false]).n = S.n := rfl
  have e3 : (S.newR ob [.bool false]).cnt = S.cnt := rfl
  have e4 : (S.newR ob [.bool false]).log = S.log := rfl
  generalize S.newR ob [.bool false] = T at *
  rw [← e1] at hsh t1 t5 hal
  rw [← e2] at t2
  rw [← e3] at t3
  rw [← e4] at t4
  have hcl : T.m 0 ≤ 1073741823 := by rw [t1]; decide
  have hfar : ¬ 1073741823 - (T.m 0 : Int) < (ticks : Int) := by rw [t1]; omega
  have hr3 : ∀ U : St, U.knows (ob, 0) → i = min c.nodes c.tickets → prApp c (eachR c.first c.nodes sb (min c.nodes c.tickets)) (.user (ob, i)) (.he 0 0 3) U = (U.setR (ob, 0) (.bool true), none) := fun U hU hi' => by
    rw [prApp_user]
    show (if _ then _ else _) = _
    rw [if_pos ⟨⟨hi', rfl, rfl, rfl⟩, hU⟩]
  have fin : ∀ (d : Nat) (U : St), d ≤ 400 → U.knows (ob, 0) → U.cnt ≤ 1000 → U.log.length ≤ 100 → i = min c.nodes c.tickets →
      iter c (prApp c (eachR c.first c.nodes sb (min c.nodes c.tickets))) (0 + d) (some (startK c wk ticks s i (.user (ob, i)))) T = iterR c (prApp c (eachR c.first c.nodes sb (min c.nodes c.tickets))) 0 (prApp c (eachR c.first c.nodes sb (min c.nodes c.tickets)) (.user (ob, i)) (.he 0 0 3) U) →
      ∃ m S', m ≤ 400 ∧ RunsF c (prApp c (eachR c.first c.nodes sb (min c.nodes c.tickets))) (startK c wk ticks s i (.user (ob, i))) T m S' ∧ S'.reads (ob, 0) (.bool true) ∧ (i < min c.nodes c.tickets → Each c sb S' (i + 1)) := by
    intro d U hd hU hc hl hi' hrun
    rw [hr3 U hU hi', iterR_none, Nat.zero_add] at hrun
    obtain ⟨m, hm, hr⟩ := runs_of_iter hmono d _ _ _ hrun ⟨by show U.cnt ≤ _; omega, by show U.log.length ≤ _; omega⟩
    exact ⟨m, _, by omega, hr, St.setR_reads hU, fun hlt => by omega⟩
  by_cases hlt : i < min c.nodes c.tickets
  · obtain ⟨fn, hfn⟩ : ∃ fn, List.range' i (c.nodes - i) = i :: fn ∧ fn = List.range' (i + 1) (c.nodes - (i + 1)) := by
      obtain ⟨a, ha⟩ : ∃ a, c.nodes - i = a + 1 := ⟨c.nodes - i - 1, by omega⟩
      refine ⟨_, by rw [ha, List.range'_succ], ?_⟩
      have : c.nodes - (i + 1) = a := by omega
      rw [this]
    obtain ⟨ft, hft⟩ : ∃ ft, List.range' i (c.tickets - i) = i :: ft ∧ ft = List.range' (i + 1) (c.tickets - (i + 1)) := by
      obtain ⟨a, ha⟩ : ∃ a, c.tickets - i = a + 1 := ⟨c.tickets - i - 1, by omega⟩
      refine ⟨_, by rw [ha, List.range'_succ], ?_⟩
      have : c.tickets - (i + 1) = a := by omega
      rw [this]
    rw [hfn.1, hft.1] at hsh
    have hst := t5 i (Nat.le_refl _) (by omega)
    have hfw := freshW_status hok
    have hgn : part (T.m (c.nodesAt + 4 * i)) 32 32 = c.first := by rw [hst]; exact hfw.2
    obtain ⟨d, m', ms, hi', hd, hd1, hsh', hstd, hms, hmx⟩ := start_ok (R0 := eachR c.first c.nodes sb (min c.nodes c.tickets)) (k := .user (ob, i)) (wk := wk) (ticks := (ticks : Int)) (user := (i : Int)) (shard := (s : Int)) rfl hs hw t2 hok hcl hfar hsh hgn hf
    have hin : i < c.nodes := by omega
    have hit : i < c.tickets := by omega
    have hfar' : ∀ s', s' < c.workers → ∀ y ∈ bx s', y ≠ i ∧ part (T.m (c.ticketsAt + 3 * y)) 0 16 ≠ i := fun s' hs' y hy => by
      refine ⟨fun e => hsh.tb s' hs' i (List.mem_cons_self ..) (e ▸ hy), fun e => ?_⟩
      have h1 := (deadM_false.1 (hal s' hs' y hy)).1
      rw [e, hst, hfw.1] at h1
      omega
    have same : ∀ (m1 : Nat → Nat), (∀ j, j ≠ 1 → j ≠ 2 → j ≠ inb c s → j ≠ c.nodesAt + 4 * i → j ≠ c.nodesAt + 4 * i + 2 → j ≠ c.ticketsAt + 3 * i → j ≠ c.ticketsAt + 3 * i + 1 → (∀ y, y < c.tickets → j ≠ tlk c y) → m1 j = T.m j) → ∀ s', s' < c.workers → ∀ y ∈ bx s', deadM c m1 y = false := fun m1 hm1 s' hs' y hy => by
      obtain ⟨a1, a2⟩ := hfar' s' hs' y hy
      have hkn := hsh.key s' hs' y hy
      rw [deadM_same (m := T.m) (hm1 _ (by omega) (by omega) (by omega) (by omega) (by omega) (by omega) (by omega) (fun z _ => by unfold tlk; omega)) (hm1 _ (by omega) (by omega) (by omega) (by omega) (by omega) (by omega) (by omega) (fun z _ => by unfold tlk; omega))]
      exact hal s' hs' y hy
    obtain ⟨tw, dw⟩ := takeWhile_none (same ms (fun j a1 a2 _ a4 a5 a6 a7 _ => hms j a1 a2 a4 a5 a6 a7) s hs)
    rw [tw] at hd hsh'
    rw [dw] at hsh'
    have hd' : d ≤ 17 := hd
    have hU : ((T.w d m').note (startPoint wk (i : Int) ((c.first : Int) + 1) ((T.m 0 : Int) + (ticks : Int)) 0)).knows (ob, 0) := hko
    have hU2 : ((T.w d m').note (startPoint wk (i : Int) ((c.first : Int) + 1) ((T.m 0 : Int) + (ticks : Int)) 0)).readsF (sb, i) = true := t6 i (Nat.le_refl _) (by omega)
    have hrun := hi' 0
    have hrr : prApp c (eachR c.first c.nodes sb (min c.nodes c.tickets)) (.user (ob, i)) (.he (i : Int) ((c.first : Int) + 1) 0) ((T.w d m').note (startPoint wk (i : Int) ((c.first : Int) + 1) ((T.m 0 : Int) + (ticks : Int)) 0)) = ((((T.w d m').note (startPoint wk (i : Int) ((c.first : Int) + 1) ((T.m 0 : Int) + (ticks : Int)) 0)).setR (ob, 0) (.bool true)).setR (sb, i) (.bool true), none) := by
      rw [prApp_user]
      show (if _ then _ else if _ then _ else _) = _
      rw [if_neg (fun q => by have := q.1.2.2.2; omega), if_pos ⟨⟨by omega, rfl, rfl, rfl, by omega, hin, hsb⟩, hU, hU2⟩]
    rw [hrr, iterR_none, Nat.zero_add] at hrun
    have hU3 : (((T.w d m').note (startPoint wk (i : Int) ((c.first : Int) + 1) ((T.m 0 : Int) + (ticks : Int)) 0)).setR (ob, 0) (.bool true)).readsF (sb, i) = true := St.readsF_setR hU2 (fun e => hsb (Prod.mk.inj e).1.symm)
    have hseen : ∀ j, i + 1 ≤ j → j < 12 → ((((T.w d m').note (startPoint wk (i : Int) ((c.first : Int) + 1) ((T.m 0 : Int) + (ticks : Int)) 0)).setR (ob, 0) (.bool true)).setR (sb, i) (.bool true)).readsF (sb, j) = true := fun j a b =>
      St.readsF_setR (St.readsF_setR (show ((T.w d m').note (startPoint wk (i : Int) ((c.first : Int) + 1) ((T.m 0 : Int) + (ticks : Int)) 0)).readsF (sb, j) = true from t6 j (by omega) b) (fun e => hsb (Prod.mk.inj e).1.symm)) (fun e => by have := (Prod.mk.inj e).2; omega)
    obtain ⟨m, hm, hr⟩ := runs_of_iter hmono d _ _ _ hrun ⟨by show T.cnt + d ≤ _; omega, by show (T.log ++ [_]).length ≤ _; simp; omega⟩
    refine ⟨m, _, by omega, hr, ?_, fun _ => ⟨t2, ?_, ⟨setB bx s (i :: bx s), ?_, ?_⟩, ?_, hseen, ?_, ?_⟩⟩
    · have h1 := St.setR_reads (v := .bool true) hU
      unfold St.reads at h1 ⊢
      show ((ob, 0), Value.bool true) ∈ List.map _ _
      exact List.mem_map.2 ⟨((ob, 0), .bool true), h1, if_neg (fun e => hsb (Prod.mk.inj e).1)⟩
    · show m' 0 = 0
      rw [hstd.rest 0 (by omega) (by omega) (by omega) (by omega) (by omega) (by omega) (by omega) (fun y hy => by unfold tlk; omega)]
      exact t1
    · rw [← hfn.2, ← hft.2]; exact hsh'
    · intro s' hs' y hy
      show deadM c m' y = false
      have old : ∀ s'', s'' < c.workers → ∀ z ∈ bx s'', deadM c m' z = false := same m' hstd.rest
      by_cases e : s' = s
      · subst e
        rw [setB_same] at hy
        rcases List.mem_cons.1 hy with rfl | hy
        · have hk := key_parts3 (c.first + 1) 0 y (by have := hok.f2; omega) (by decide) (by have := hok.n2; omega)
          have hs3 := state_parts3 (c.first + 1) (0 + ticks) 1 (by have := hok.f2; omega) (by omega) (by decide)
          have ek : m' (c.ticketsAt + 3 * y) = keyWord ((c.first + 1 : Nat) : Int) ((0 : Nat) : Int) (y : Int) := by rw [hstd.key, Int.natCast_add]; rfl
          have es : m' (c.nodesAt + 4 * y) = stateWord ((c.first + 1 : Nat) : Int) ((0 + ticks : Nat) : Int) ((1 : Nat) : Int) := by rw [hstd.state, t1, Int.natCast_add, Int.natCast_add]; rfl
          refine deadM_false.2 ?_
          rw [ek, hk.2.2, es, hs3.2.2, hs3.1, hk.1]
          exact ⟨rfl, rfl⟩
        · exact old s' hs y hy
      · rw [setB_other _ _ e] at hy; exact old s' hs' y hy
    · intro j a b
      show m' _ = _
      rw [hstd.rest _ (by omega) (by omega) (by omega) (by omega) (by omega) (by omega) (by omega) (fun y _ => by unfold tlk; omega)]
      exact t5 j (by omega) b
    · show T.cnt + d ≤ _
      omega
    · show (T.log ++ [_]).length ≤ _
      simp; omega
  · have hi' : i = min c.nodes c.tickets := by omega
    by_cases hne : i = c.nodes
    · have e0 : List.range' i (c.nodes - i) = [] := by rw [show c.nodes - i = 0 by omega]; rfl
      rw [e0] at hsh
      exact fin 2 ((T.w 2 T.m).note (startPoint wk 0 0 0 3)) (by decide) hko (by show T.cnt + 2 ≤ _; omega) (by show (T.log ++ [_]).length ≤ _; simp; omega) hi' (start_empty hw t2 hok hcl hfar hsh 0)
    · obtain ⟨fn, hfn⟩ : ∃ fn, List.range' i (c.nodes - i) = i :: fn := by
        obtain ⟨a, ha⟩ : ∃ a, c.nodes - i = a + 1 := ⟨c.nodes - i - 1, by omega⟩
        exact ⟨_, by rw [ha, List.range'_succ]⟩
      have e0 : List.range' i (c.tickets - i) = [] := by rw [show c.tickets - i = 0 by omega]; rfl
      rw [hfn, e0] at hsh
      have hgn : ¬ part (T.m (c.nodesAt + 4 * i)) 32 32 = 4294967295 := by rw [t5 i (Nat.le_refl _) (by omega), (freshW_status hok).2]; exact hf
      obtain ⟨m', hrun, _, _⟩ := start_full (R0 := eachR c.first c.nodes sb (min c.nodes c.tickets)) (k := .user (ob, i)) (wk := wk) hw t2 hok hcl hfar hsh hgn
      exact fin 9 ((T.w 9 m').note (startPoint wk 0 0 0 3)) (by decide) hko (by show T.cnt + 9 ≤ _; omega) (by show (T.log ++ [_]).length ≤ _; simp; omega) hi' (hrun 0)
end Go.Proofs.YtpfhfohnpgmipaaGreat
/- The law StartEach: its continuation. -/
namespace Go.Proofs.YtpfhfohnpgmipaaGreat
open Go.RowKit
set_option maxRecDepth 100000
set_option linter.unusedVariables false

set_option maxHeartbeats 2000000 in
theorem law16_each1 {cf : Cf} {E : G} {t n : Nat} {L : Lab} {w : World} {first nodes sb room ob i bi rb cb : Nat} {x : Nat → Int} (hx3 : x 3 = (nodes : Int)) (hx6 : x 6 = (first : Int)) (hfb : first ≤ 4294967295) (hib : i ≤ 8192)
    (henv : Env L w [(bi, [.int .i64 (i : Int)]), (rb, [.int .i64 (room : Int)]), (cb, [.int .i64 (x 0), .int .i64 (x 1), .int .i64 (x 2), .int .i64 (x 3), .int .i64 (x 4), .int .i64 (x 5), .int .i64 (x 6), .int .i64 (x 7), .int .i64 (x 8), .int .i64 (x 9), .int .i64 (x 10), .int .i64 (x 11), .int .i64 (x 12)])]) :
    ConSim cf (prApp cf (eachR first nodes sb room)) E t isHe n L w (.func (.func 10) #[] #[.pointer (some ⟨bi, 0, none⟩), .pointer (some ⟨rb, 0, none⟩), .pointer (some ⟨ob, 0, none⟩), .pointer (some ⟨cb, 0, none⟩), .pointer (some ⟨sb, 0, none⟩)]) (.ret (.user (ob, i))) := by
  refine ⟨_, _, rfl, enters_of Tryz.func10 (by kernel_rfl) rfl, ?_⟩
  intro a L' w' S ha hx hg hbd
  cases a with
  | he nn gg ee =>
    rw [app_ret, prApp_user] at hbd ⊢
    have HE := henv.ext hx
    show Calls _ _ #[_, _, _, _, _, _, _] _ _
    by_cases hp : (i = room ∧ nn = 0 ∧ gg = 0 ∧ ee = 3) ∧ S.knows (ob, 0)
    · have e : eachR first nodes sb room (ob, i) (.he nn gg ee) S = (S.setR (ob, 0) (.bool true), none) := if_pos hp
      rw [e]
      obtain ⟨⟨rfl, rfl, rfl, rfl⟩, hk⟩ := hp
      have hb : Below w'.heap.size w' (w'.alloc (.cells #[.int .i64 0, .int .i64 0] 35)) := (Below.refl _ _).alloc (Nat.le_refl _) _
      have hg1 := hg.below hb
      have HE1 := HE.below hb
      obtain ⟨⟨u1, c1⟩, f1, l1⟩ := hg1.knows hk
      have h0 : (w'.alloc (.cells #[.int .i64 0, .int .i64 0] 35)).cell? ⟨w'.heap.size, 0, none⟩ = some (.int .i64 0) := by go_simp
      have h1 : (w'.alloc (.cells #[.int .i64 0, .int .i64 0] 35)).cell? ⟨w'.heap.size, 1, none⟩ = some (.int .i64 0) := by go_simp
      have q0 : (w'.alloc (.cells #[.int .i64 0, .int .i64 0] 35)).cell? ⟨bi, 0, none⟩ = some (.int .i64 (i : Int)) := HE1.cell 0 0 rfl rfl
      have q1 : (w'.alloc (.cells #[.int .i64 0, .int .i64 0] 35)).cell? ⟨rb, 0, none⟩ = some (.int .i64 (i : Int)) := HE1.cell 1 0 rfl rfl
      have heq : ∀ w : World, Sem.run Tryz.prog (binOp BinOp.eql 35 (.agg #[.int .i64 0, .int .i64 0]) (.agg #[.int .i64 0, .int .i64 0])) w = .ok (.bool true) w := fun w => by kernel_rfl
      have HG := Go.Lib.hid (hg1.setR hk (.bool true))
      have HD := Go.Lib.hid ((below_did hb t L').trans ((hg1.shr_setR hk (.bool true)).did t))
      clear hg1 hg hbd hx e ha HE HE1 henv hb hk
      go_enter Tryz.func10, Tryz.ntmps10
      go_wp2
      go_ret
      refine ⟨_, L', rfl, HD.out, HG.out, ?_⟩
      cases n with
      | zero => trivial
      | succ n => rfl
    · by_cases hq : (¬ i = room ∧ nn = i ∧ gg = (first : Int) + 1 ∧ ee = 0 ∧ i < 12 ∧ i < nodes ∧ ob ≠ sb) ∧ S.knows (ob, 0) ∧ S.readsF (sb, i) = true
      · have e : eachR first nodes sb room (ob, i) (.he nn gg ee) S = ((S.setR (ob, 0) (.bool true)).setR (sb, i) (.bool true), none) := by
          show (if _ then _ else if _ then _ else _) = _
          rw [if_neg hp, if_pos hq]
        rw [e]
        obtain ⟨⟨hne, rfl, rfl, rfl, hi12, hin, hsb⟩, hk, hrf⟩ := hq
        have hb : Below w'.heap.size w' (w'.alloc (.cells #[.int .i64 (i : Int), .int .i64 ((first : Int) + 1)] 35)) := (Below.refl _ _).alloc (Nat.le_refl _) _
        have hg1 := hg.below hb
        have HE1 := HE.below hb
        have h0 : (w'.alloc (.cells #[.int .i64 (i : Int), .int .i64 ((first : Int) + 1)] 35)).cell? ⟨w'.heap.size, 0, none⟩ = some (.int .i64 (i : Int)) := by go_simp
        have h1 : (w'.alloc (.cells #[.int .i64 (i : Int), .int .i64 ((first : Int) + 1)] 35)).cell? ⟨w'.heap.size, 1, none⟩ = some (.int .i64 ((first : Int) + 1)) := by go_simp
        have q0 : (w'.alloc (.cells #[.int .i64 (i : Int), .int .i64 ((first : Int) + 1)] 35)).cell? ⟨bi, 0, none⟩ = some (.int .i64 (i : Int)) := HE1.cell 0 0 rfl rfl
        have q1 : (w'.alloc (.cells #[.int .i64 (i : Int), .int .i64 ((first : Int) + 1)] 35)).cell? ⟨rb, 0, none⟩ = some (.int .i64 (room : Int)) := HE1.cell 1 0 rfl rfl
        have q3 : (w'.alloc (.cells #[.int .i64 (i : Int), .int .i64 ((first : Int) + 1)] 35)).cell? ⟨cb, 3, none⟩ = some (.int .i64 (nodes : Int)) := by have := HE1.cell (v := .int .i64 (x 3)) 2 3 rfl rfl; rwa [hx3] at this
        have q6 : (w'.alloc (.cells #[.int .i64 (i : Int), .int .i64 ((first : Int) + 1)] 35)).cell? ⟨cb, 6, none⟩ = some (.int .i64 (first : Int)) := by have := HE1.cell (v := .int .i64 (x 6)) 2 6 rfl rfl; rwa [hx6] at this
        have qs := hg1.reads (St.readsF_reads hrf)
        have fs := (hg1.knows (St.readsF_knows hrf)).2.1
        obtain ⟨⟨u1, c1⟩, f1, l1⟩ := hg1.knows hk
        dsimp only at fs c1 f1
        have hlt : ob < w'.heap.size := by obtain ⟨⟨u2, c2⟩, _, _⟩ := hg.knows hk; exact cell_lt c2
        have h0' := cell_set_other (a := ⟨ob, 0, none⟩) (v := .bool true) h0 (by show w'.heap.size ≠ ob; omega)
        have qs' := cell_set_other (a := ⟨ob, 0, none⟩) (v := .bool true) qs (by show sb ≠ ob; exact Ne.symm hsb)
        have hk2 : (S.setR (ob, 0) (.bool true)).knows (sb, i) := St.knows_setR.2 (St.readsF_knows hrf)
        have HG := Go.Lib.hid ((hg1.setR hk (.bool true)).setR hk2 (.bool true))
        have HD := Go.Lib.hid ((below_did hb t L').trans (((hg1.shr_setR hk (.bool true)).did t).trans (((hg1.setR hk (.bool true)).shr_setR hk2 (.bool true)).did t)))
        have n1 : decide ((i : Int) = (room : Int)) = false := by simp; omega
        have n2 : ((i : Int) == (room : Int)) = false := by simp; omega
        have hwf : IntKind.i64.wrap ((first : Int) + 1) = (first : Int) + 1 := IntWalk.i64_in _ (by omega)
        have b1 : (0 : Int) ≤ (i : Int) := by omega
        have b2 : (i : Int) < 12 := by omega
        have b3 : (i : Int) ≤ 11 := by omega
        have hIn : decide (0 ≤ (i : Int) ∧ (i : Int) < (nodes : Int)) = true := by simp; omega
        clear hg1 hg hbd hx e ha HE HE1 henv hb hk hk2 hrf hp hne
        go_enter Tryz.func10, Tryz.ntmps10
        go_wp2_with fail
        refine (ref_In _ _ _).mono ?_
        rintro e wi ⟨rfl, rfl⟩
        rw [hIn]
        generalize (w'.alloc (.cells #[.int .i64 (i : Int), .int .i64 ((first : Int) + 1)] 35)) = W at *
        clear hlt
        generalize w'.heap.size = hs0 at *
        go_wp2
        go_ret
        refine ⟨_, L', rfl, HD.out, HG.out, ?_⟩
        cases n with
        | zero => trivial
        | succ n => rfl
      · have e : eachR first nodes sb room (ob, i) (.he nn gg ee) S = (S.burst, none) := by
          show (if _ then _ else if _ then _ else _) = _
          rw [if_neg hp, if_neg hq]
        rw [e] at hbd
        exact (St.burst_no hbd).elim
  | _ => exact absurd ha (by simp [isHe])
end Go.Proofs.YtpfhfohnpgmipaaGreat
