/- A task is done to its end. -/
import Derived.Test.YtgemjjpmoejgdaaGreatHqh
namespace Go.Proofs.YtgemjjpmoejgdaaGreat
open Go.RowKit
set_option maxRecDepth 100000
set_option linter.unusedVariables false

section
variable {ρ : Type} {R : ρ → Arg → St → St × Option (K ρ)} {cf : Cf} {E : G} {t : Nat}
/-- Code ends within so many steps. -/
inductive RunsF (cf : Cf) (R : ρ → Arg → St → St × Option (K ρ)) : K ρ → St → Nat → St → Prop
  | last {κ : K ρ} {S S' : St} : step cf R κ S = (S', none) → Bd S' → RunsF cf R κ S 1 S'
  | more {κ κ1 : K ρ} {S S1 S' : St} {m : Nat} : step cf R κ S = (S1, some κ1) → Bd S1 → RunsF cf R κ1 S1 m S' → RunsF cf R κ S (m + 1) S'
theorem RunsF.pos {κ : K ρ} {S S' : St} {m : Nat} (h : RunsF cf R κ S m S') : 1 ≤ m := by cases h <;> omega
theorem step_mono (hR : RMono R) (κ : K ρ) (S : St) : S.cnt ≤ (step cf R κ S).1.cnt ∧ S.log.length ≤ (step cf R κ S).1.log.length := by
  have tr : ∀ {T : St} {r : St × Option (K ρ)}, S.cnt ≤ T.cnt ∧ S.log = T.log → T.cnt ≤ r.1.cnt ∧ T.log.length ≤ r.1.log.length → S.cnt ≤ r.1.cnt ∧ S.log.length ≤ r.1.log.length := fun h k => ⟨Nat.le_trans h.1 k.1, h.2 ▸ k.2⟩
  have ht : ∀ i, S.cnt ≤ (S.touch i).cnt ∧ S.log = (S.touch i).log := fun i => by unfold St.touch; split <;> exact ⟨by first | exact Nat.le_succ _ | exact Nat.le_refl _, rfl⟩
  have hp : ∀ i v, S.cnt ≤ (S.put i v).cnt ∧ S.log = (S.put i v).log := fun i v => by unfold St.put; split <;> exact ⟨by first | exact Nat.le_succ _ | exact Nat.le_refl _, rfl⟩
  cases κ with
  | load i k => exact tr (ht i) (app_mono hR k _ _)
  | store i v k => exact tr (hp i v) (app_mono hR k _ _)
  | swap i v k => exact tr (hp i v) (app_mono hR k _ _)
  | cas i old v k =>
    refine tr (T := if S.get i = old then S.put i v else S.touch i) ?_ (app_mono hR k _ _)
    split
    · exact hp i v
    · exact ht i
  | idle k => exact app_mono hR k _ _
theorem RunsF.mono {κ : K ρ} {S S' : St} {m : Nat} (hR : RMono R) (h : RunsF cf R κ S m S') : S.cnt ≤ S'.cnt ∧ S.log.length ≤ S'.log.length := by
  induction h with
  | last h1 h2 => rename_i κ S S'; have := step_mono (cf := cf) hR κ S; rw [h1] at this; exact this
  | more h1 h2 h3 ih => rename_i κ κ1 S S1 S' m; have := step_mono (cf := cf) hR κ S; rw [h1] at this; exact ⟨Nat.le_trans this.1 ih.1, Nat.le_trans this.2 ih.2⟩
theorem RunsF.bd {κ : K ρ} {S S' : St} {m : Nat} (hR : RMono R) (h : RunsF cf R κ S m S') (hb : Bd S') : Bd S := ⟨Nat.le_trans (h.mono hR).1 hb.cnt, Nat.le_trans (h.mono hR).2 hb.log⟩
/-- What is left of code, and in how many steps it ends. -/
def RunsO (cf : Cf) (R : ρ → Arg → St → St × Option (K ρ)) : Option (K ρ) → St → Nat → St → Prop
  | some κ, S, m, S' => RunsF cf R κ S m S'
  | none, S, m, S' => m = 0 ∧ S = S'
set_option maxHeartbeats 4000000 in
theorem task_finish {L : Lab} {S S' : St} {w : World} {v : Value} {κ : K ρ} {m most tb s : Nat} (hg : Good E L S w) (htk : TaskAt w L t tb v s) (ht : t < 4000) (hm : m ≤ most) (hmo : most ≤ 1000000) (hs : s ≤ 1000000000) (hk : CodeSim cf R E t (m + 1) L w v (some κ)) (hr : RunsF cf R κ S m S') :
    Calls Tryz.prog 20 #[.pointer (some ⟨tb, 0, none⟩), .int .i64 most] w fun e w' => ∃ v' L', e = .returned (.bool true) ∧ Good E L' S' w' ∧ DidP (TP t) L w L' w' ∧ TaskAt w' L' t tb v' (s + m) := by
  have HI := Go.Lib.hid (And.intro hg (And.intro htk (And.intro hk (DidP.refl (TP t) L w))))
  have HR := Go.Lib.hid hr
  clear hg htk hk hr
  go_enter Tryz.func20, Tryz.ntmps20
  go_wp2
  go_loopw [5] (fun i wr => ∃ (j m1 : Nat) (k1 : Option (K ρ)) (S1 : St) (v1 : Value) (L2 : Lab), i = .int .i64 j ∧ m1 + j = m ∧ RunsO cf R k1 S1 m1 S' ∧ Good E L2 S1 wr ∧ TaskAt wr L2 t tb v1 (s + j) ∧ CodeSim cf R E t (m1 + 1) L2 wr v1 k1 ∧ DidP (TP t) L w L2 wr) (fun i _ => most - (intOf i).toNat)
  case atStart => exact ⟨0, m, some κ, S, v, L, rfl, by omega, HR.out, HI.out.1, HI.out.2.1, HI.out.2.2.1, HI.out.2.2.2⟩
  case round =>
    obtain ⟨j, m1, k1, S1, v1, L2, rfl, hj, hr, hg, htk, hk, hd⟩ := hrel
    have HEN := Go.Lib.hid (ended_any htk.c0 hk)
    cases k1 with
    | none =>
      obtain ⟨rfl, rfl⟩ := hr
      have hjm : j = m := by omega
      subst hjm
      have HX := Go.Lib.hid (And.intro hg (And.intro hd htk))
      clear hg htk hk hd
      by_cases hlt : j < most
      · have hD : ((j : Int) < (most : Int)) := by omega
        go_wp2_with (go_at_call 94; refine HEN.out.mono ?_; rintro e w2 ⟨rfl, rfl⟩)
        go_ret
        exact ⟨v1, L2, rfl, HX.out.1, HX.out.2.1, HX.out.2.2⟩
      · have hD : ((j : Int) < (most : Int)) = False := by simp; omega
        go_wp2_with (go_at_call 94; refine HEN.out.mono ?_; rintro e w2 ⟨rfl, rfl⟩)
        go_ret
        exact ⟨v1, L2, rfl, HX.out.1, HX.out.2.1, HX.out.2.2⟩
    | some κ1 =>
      have hr' : RunsF cf R κ1 S1 m1 S' := hr
      have hm1 := hr'.pos
      have hD : ((j : Int) < (most : Int)) := by omega
      obtain ⟨m2, rfl⟩ : ∃ m2, m1 = m2 + 1 := ⟨m1 - 1, by omega⟩
      have HS : Hid (∃ S2 k2, step cf R κ1 S1 = (S2, k2) ∧ Bd S2 ∧ RunsO cf R k2 S2 m2 S') := by
        cases hr' with
        | last h1 h2 => exact ⟨_, none, h1, h2, rfl, rfl⟩
        | more h1 h2 h4 => exact ⟨_, _, h1, h2, h4⟩
      obtain ⟨S2, k2, h1, h2, h4⟩ := HS.out
      have HST := Go.Lib.hid (fun hbd => task_step (n := m2) hg htk hk hbd (by omega) ht)
      rw [h1] at HST
      have HR4 := Go.Lib.hid h4
      have HB2 := Go.Lib.hid h2
      have HD := Go.Lib.hid hd
      clear hr hr' hg htk hk hd h1 h2 h4 HS
      go_wp2_with (go_at_call 94; refine HEN.out.mono ?_; rintro e w2 ⟨rfl, rfl⟩)
      refine (HST.out HB2.out).mono ?_
      rintro e w2 ⟨v2, L3, rfl, hd2, hg2, ht2, hk2⟩
      have HX := Go.Lib.hid (And.intro hg2 (And.intro hd2 (And.intro ht2 hk2)))
      clear hg2 hd2 ht2 hk2
      go_wp2
      refine ⟨⟨j + 1, m2, k2, S2, v2, L3, by go_num, by omega, HR4.out, HX.out.1, HX.out.2.2.1, HX.out.2.2.2, HD.out.trans HX.out.2.1⟩, by simp [intOf]; omega⟩
end
end Go.Proofs.YtgemjjpmoejgdaaGreat
/- Code that is done alone, step by step: what pops, pushes and puts leave. -/
namespace Go.Proofs.YtgemjjpmoejgdaaGreat
open Go.RowKit
set_option maxRecDepth 100000
set_option linter.unusedVariables false

theorem headIdx_turned (old : Nat) (f : Nat) (hf : f < 4294967295) : part (turned old ((f : Int))) 0 32 = f + 1 := by
  rw [turned_eq, headPacked_in _ _ (by omega)]
  have hc : (headCnt old + 1) % 4294967296 < 4294967296 := Nat.mod_lt _ (by decide)
  generalize (headCnt old + 1) % 4294967296 = k at *
  have f1 : fits (k : Int) 32 = true := by unfold fits; simp; omega
  have f2 : fits ((f : Int) + 1) 32 = true := by unfold fits; simp; omega
  have e : packed [32, 32] [(k : Int), (f : Int) + 1] = (k * 4294967296 + (f + 1), 0) := by
    unfold packed
    simp only [List.length_cons, List.length_nil]
    rw [if_pos (by simp [List.range_succ, f1, f2])]
    simp only [packAcc, wsum, List.take_succ_cons, List.take_zero, List.sum_cons, List.sum_nil, List.getD_cons_zero, List.getD_cons_succ]
    have a1 : ((k : Int)).toNat = k := by omega
    have a2 : ((f : Int) + 1).toNat = f + 1 := by omega
    rw [a1, a2]
    simp
  rw [e]
  unfold part
  simp
  omega
theorem headIdx_turned_end (old : Nat) : part (turned old (-1)) 0 32 = 0 := by
  rw [turned_eq, headPacked_in _ _ (by omega)]
  have hc : (headCnt old + 1) % 4294967296 < 4294967296 := Nat.mod_lt _ (by decide)
  generalize (headCnt old + 1) % 4294967296 = k at *
  have f1 : fits (k : Int) 32 = true := by unfold fits; simp; omega
  have f2 : fits (0 : Int) 32 = true := by decide
  have e : packed [32, 32] [(k : Int), (-1 : Int) + 1] = (k * 4294967296 + 0, 0) := by
    unfold packed
    simp only [List.length_cons, List.length_nil]
    rw [if_pos (by simp [List.range_succ, f1, f2])]
    simp only [packAcc, wsum, List.take_succ_cons, List.take_zero, List.sum_cons, List.sum_nil, List.getD_cons_zero, List.getD_cons_succ]
    have a1 : ((k : Int)).toNat = k := by omega
    rw [a1]
    simp
  rw [e]
  unfold part
  simp
/-- The word of a head that is popped: its index is what the link held. -/
theorem headIdx_next (old x : Nat) (hx : x ≤ 4294967295) : part (turned old ((x : Int) - 1)) 0 32 = x := by
  cases x with
  | zero => exact headIdx_turned_end old
  | succ f =>
    have e : ((f + 1 : Nat) : Int) - 1 = (f : Int) := by omega
    rw [e]; exact headIdx_turned old f (by omega)

/-- What a chain's links say: 0 is the end, x + 1 is the thing x. -/
def Ch (m lk : Nat → Nat) : Nat → List Nat → Prop
  | p, [] => p = 0
  | p, x :: xs => p = x + 1 ∧ Ch m lk (m (lk x)) xs
theorem Ch.upd {m lk : Nat → Nat} {a v : Nat} : ∀ {xs : List Nat} {p : Nat}, Ch m lk p xs → (∀ x ∈ xs, lk x ≠ a) → Ch (upd m a v) lk p xs
  | [], _, h, _ => h
  | x :: xs, p, h, hn => by
    refine ⟨h.1, ?_⟩
    have e : Go.Proofs.YtgemjjpmoejgdaaGreat.upd m a v (lk x) = m (lk x) := by unfold Go.Proofs.YtgemjjpmoejgdaaGreat.upd; rw [if_neg (hn x (List.mem_cons_self ..))]
    rw [e]
    exact h.2.upd fun y hy => hn y (List.mem_cons_of_mem _ hy)
theorem Ch.head_le {m lk : Nat → Nat} {xs : List Nat} {p n : Nat} (h : Ch m lk p xs) (hn : ∀ x ∈ xs, x < n) : p ≤ n := by
  cases xs with
  | nil => have : p = 0 := h; omega
  | cons x xs => have := h.1; have := hn x (List.mem_cons_self ..); omega
theorem Ch.of_chain {S : St} {lk : Nat → Nat} : ∀ {xs : List Nat} {p : Nat}, ChainOf S lk ((p : Int) - 1) xs → Ch S.m lk p xs
  | [], p, h => by
    have h1 : (p : Int) - 1 < 0 := h.1
    show p = 0
    omega
  | x :: xs, p, h => ⟨by have := h.1; omega, Ch.of_chain h.2.2.2⟩
theorem Ch.chain {S : St} {lk : Nat → Nat} {n : Nat} : ∀ {xs : List Nat} {p : Nat}, Ch S.m lk p xs → (∀ x ∈ xs, x < n) → (∀ x, x < n → lk x < S.n) → n ≤ 1000000 → ChainOf S lk ((p : Int) - 1) xs
  | [], p, h, _, _, _ => by have : p = 0 := h; exact ⟨by omega, by omega⟩
  | x :: xs, p, h, hn, hl, hb => by
    have h1 := hn x (List.mem_cons_self ..)
    have h2 := h.2.head_le fun y hy => hn y (List.mem_cons_of_mem _ hy)
    exact ⟨by have := h.1; omega, hl x h1, by omega, h.2.chain (fun y hy => hn y (List.mem_cons_of_mem _ hy)) hl hb⟩

/-- So many touches more, and other contents. -/
def St.w (S : St) (d : Nat) (m : Nat → Nat) : St := { S with cnt := S.cnt + d, m := m }
theorem St.w_n (S : St) (d : Nat) (m : Nat → Nat) : (S.w d m).n = S.n := rfl

section
variable {ρ : Type} {cf : Cf} {R : ρ → Arg → St → St × Option (K ρ)}
/-- So many steps. -/
def iter (cf : Cf) (R : ρ → Arg → St → St × Option (K ρ)) : Nat → Option (K ρ) → St → St × Option (K ρ)
  | 0, k, S => (S, k)
  | _ + 1, none, S => (S, none)
  | n + 1, some κ, S => iter cf R n (step cf R κ S).2 (step cf R κ S).1
/-- So many steps behind a step. -/
def iterR (cf : Cf) (R : ρ → Arg → St → St × Option (K ρ)) (n : Nat) (r : St × Option (K ρ)) : St × Option (K ρ) := iter cf R n r.2 r.1
theorem iter_none (n : Nat) (S : St) : iter cf R n none S = (S, none) := by cases n <;> rfl
theorem iterR_none (n : Nat) (S : St) : iterR cf R n (S, none) = (S, none) := iter_none n S
/-- Code that is through within so many steps. -/
theorem runs_of_iter (hR : RMono R) : ∀ (n : Nat) (κ : K ρ) (S S' : St), iter cf R n (some κ) S = (S', none) → Bd S' → ∃ m, m ≤ n ∧ RunsF cf R κ S m S'
  | 0, κ, S, S', h, _ => by cases h
  | n + 1, κ, S, S', h, hb => by
    have h' : iter cf R n (step cf R κ S).2 (step cf R κ S).1 = (S', none) := h
    rcases e : step cf R κ S with ⟨S1, k1⟩
    rw [e] at h'
    cases k1 with
    | none =>
      rw [iter_none] at h'
      obtain ⟨rfl, _⟩ := Prod.mk.inj h'
      exact ⟨1, by omega, .last e hb⟩
    | some κ1 =>
      obtain ⟨m, hm, hr⟩ := runs_of_iter hR n κ1 S1 S' h' hb
      exact ⟨m + 1, by omega, .more e (hr.bd hR hb) hr⟩

theorem get_in {S : St} {i : Nat} (h : i < S.n) : S.get (i : Int) = S.m i := by
  have hh : S.has (i : Int) := ⟨by omega, by omega⟩
  unfold St.get; rw [if_pos hh]; simp
theorem touch_in {S : St} {i : Nat} (h : i < S.n) : S.touch (i : Int) = (S.w 1 S.m) := by
  have hh : S.has (i : Int) := ⟨by omega, by omega⟩
  unfold St.touch; rw [if_pos hh]; rfl
theorem put_in {S : St} {i v : Nat} (h : i < S.n) : S.put (i : Int) v = (S.w 1 (upd S.m i v)) := by
  have hh : S.has (i : Int) := ⟨by omega, by omega⟩
  unfold St.put; rw [if_pos hh]; rfl
theorem it_load {n : Nat} {i : Nat} {k : C ρ} {S : St} (h : i < S.n) : iter cf R (n + 1) (some (.load (i : Int) k)) S = iterR cf R n (app cf R k (.w (S.m i)) (S.w 1 S.m)) := by
  show iterR cf R n (app cf R k (.w (S.get (i : Int))) (S.touch (i : Int))) = _
  rw [get_in h, touch_in h]
theorem it_store {n : Nat} {i v : Nat} {k : C ρ} {S : St} (h : i < S.n) : iter cf R (n + 1) (some (.store (i : Int) v k)) S = iterR cf R n (app cf R k .u (S.w 1 (upd S.m i v))) := by
  show iterR cf R n (app cf R k .u (S.put (i : Int) v)) = _
  rw [put_in h]
theorem it_cas {n : Nat} {i old v : Nat} {k : C ρ} {S : St} (h : i < S.n) (ho : S.m i = old) : iter cf R (n + 1) (some (.cas (i : Int) old v k)) S = iterR cf R n (app cf R k (.b true) (S.w 1 (upd S.m i v))) := by
  have hh : S.has (i : Int) := ⟨by omega, by omega⟩
  show iterR cf R n (app cf R k (.b (decide (S.has (i : Int) ∧ S.get (i : Int) = old))) (if S.get (i : Int) = old then S.put (i : Int) v else S.touch (i : Int))) = _
  rw [get_in h, if_pos ho, decide_eq_true (And.intro hh ho), put_in h]
theorem it_idle {n : Nat} {k : C ρ} {S : St} : iter cf R (n + 1) (some (.idle k)) S = iterR cf R n (app cf R k .u S) := rfl

theorem wrap_next (x : Nat) (hx : x ≤ 4294967295) : wrap64 (toI x - 1) = (x : Int) - 1 := by
  unfold toI wrap64; omega
theorem headIdx_nat {w f : Nat} (h : part w 0 32 = f + 1) : headIdx w = (f : Int) := by unfold headIdx; rw [h]; omega

def Stk.headN : Stk → Nat
  | .nodes => 1
  | .tickets => 2
theorem Stk.head_eq (st : Stk) : st.head = (st.headN : Int) := by cases st <;> rfl

theorem it_pop_none {n : Nat} {st : Stk} {c : C ρ} {S : St} (hh : st.headN < S.n) (h : part (S.m st.headN) 0 32 = 0) :
    iter cf R (n + 1) (some (popK st c)) S = iterR cf R n (app cf R c (.pop (-1) false) (S.w 1 S.m)) := by
  unfold popK
  rw [Stk.head_eq, it_load hh]
  show iterR cf R n (if headIdx (S.m st.headN) < 0 then _ else _) = _
  rw [if_pos (by unfold headIdx; rw [h]; decide)]
theorem it_pop {n : Nat} {st : Stk} {c : C ρ} {S : St} {f l : Nat} (hh : st.headN < S.n) (h : part (S.m st.headN) 0 32 = f + 1) (hl : st.link cf (f : Int) = (l : Int)) (hln : l < S.n) (hx : S.m l ≤ 4294967295) :
    iter cf R (n + 3) (some (popK st c)) S = iterR cf R n (app cf R c (.pop (f : Int) true) (S.w 3 (upd S.m st.headN (turned (S.m st.headN) ((S.m l : Int) - 1))))) := by
  unfold popK
  rw [Stk.head_eq, it_load hh]
  show iterR cf R (n + 2) (if headIdx (S.m st.headN) < 0 then _ else _) = _
  rw [headIdx_nat h, if_neg (by omega), hl]
  show iter cf R (n + 2) (some (.load (l : Int) (.popB st (S.m st.headN) (f : Int) c))) (S.w 1 S.m) = _
  rw [it_load (S := S.w 1 S.m) hln]
  show iter cf R (n + 1) (some (.cas st.head (S.m st.headN) (turned (S.m st.headN) (wrap64 (toI (S.m l) - 1))) (.popC st f c))) (S.w 2 S.m) = _
  rw [Stk.head_eq, it_cas (S := S.w 2 S.m) (old := S.m st.headN) hh rfl, wrap_next _ hx]
  rfl
theorem toU_idx {w : Nat} : toU (headIdx w + 1) = part w 0 32 := by
  have h : part w 0 32 < 4294967296 := Nat.mod_lt _ (by decide)
  unfold toU headIdx; omega
theorem it_push {n : Nat} {st : Stk} {i : Int} {c : C ρ} {S : St} {l : Nat} (hh : st.headN < S.n) (hl : st.link cf i = (l : Int)) (hln : l < S.n) (hne : l ≠ st.headN) :
    iter cf R (n + 3) (some (pushK st i c)) S = iterR cf R n (app cf R c .u (S.w 3 (upd (upd S.m l (part (S.m st.headN) 0 32)) st.headN (turned (S.m st.headN) i)))) := by
  unfold pushK
  rw [Stk.head_eq, it_load hh]
  show iter cf R (n + 2) (some (.store (st.link cf i) (toU (headIdx (S.m st.headN) + 1)) (.pushB st i (S.m st.headN) c))) (S.w 1 S.m) = _
  rw [hl, toU_idx, it_store (S := S.w 1 S.m) hln]
  show iter cf R (n + 1) (some (.cas st.head (S.m st.headN) (turned (S.m st.headN) i) (.pushC st i c))) (S.w 2 (upd S.m l (part (S.m st.headN) 0 32))) = _
  rw [Stk.head_eq, it_cas (S := S.w 2 (upd S.m l (part (S.m st.headN) 0 32))) hh (by show upd _ _ _ _ = _; unfold upd; rw [if_neg (Ne.symm hne)])]
  rfl
theorem it_write {n : Nat} {t g v nd d : Int} {k t0 : Nat} {c : C ρ} {S : St} (hk : cf.key t = (k : Int)) (ht : cf.time t = (t0 : Int)) (hkn : k < S.n) (htn : t0 < S.n) :
    iter cf R (n + 2) (some (writeK cf t g v nd d c)) S = iterR cf R n (app cf R c .u (S.w 2 (upd (upd S.m k (keyWord g v nd)) t0 (toU (upI d cf.slack))))) := by
  unfold writeK
  rw [hk, it_store hkn]
  show iter cf R (n + 1) (some (.store (cf.time t) _ c)) (S.w 1 (upd S.m k (keyWord g v nd))) = _
  rw [ht, it_store (S := S.w 1 (upd S.m k (keyWord g v nd))) htn]
  rfl
end

section
variable {ρ : Type} {cf : Cf} {R0 : ρ → Arg → St → St × Option (K (PR ρ))}
/-- A ticket is laid ahead of what is first, which is none, or isn't dead. -/
theorem it_lay {n : Nat} {s t : Int} {b l head : Nat} {k : PR ρ} {S : St} (hb : cf.inbox s = (b : Int)) (hl : cf.ticketLink t = (l : Int)) (hbn : b < S.n) (hln : l < S.n) (hne : l ≠ b) (hh : S.m b = head) :
    iter cf (prApp cf R0) (n + 2) (some (layK cf s t head (headIdx head) k)) S = iterR cf (prApp cf R0) n (prApp cf R0 k .u (S.w 2 (upd (upd S.m l (part head 0 32)) b (turned head t)))) := by
  unfold layK
  rw [hl, toU_idx, it_store hln]
  show iter cf (prApp cf R0) (n + 1) (some (.cas (cf.inbox s) head (turned head t) (.ret (.layC s t k)))) (S.w 1 (upd S.m l (part head 0 32))) = _
  rw [hb, it_cas (S := S.w 1 (upd S.m l (part head 0 32))) hbn (by show upd _ _ _ _ = _; unfold upd; rw [if_neg (Ne.symm hne)]; exact hh)]
  rfl
theorem it_put_empty {n : Nat} {s t : Int} {b l : Nat} {k : PR ρ} {S : St} (hb : cf.inbox s = (b : Int)) (hl : cf.ticketLink t = (l : Int)) (hbn : b < S.n) (hln : l < S.n) (hne : l ≠ b) (he : part (S.m b) 0 32 = 0) :
    iter cf (prApp cf R0) (n + 3) (some (putK cf s t k)) S = iterR cf (prApp cf R0) n (prApp cf R0 k .u (S.w 3 (upd (upd S.m l (part (S.m b) 0 32)) b (turned (S.m b) t)))) := by
  unfold putK
  rw [hb, it_load hbn]
  show iterR cf (prApp cf R0) (n + 2) (if headIdx (S.m b) < 0 then (_, some (layK cf s t (S.m b) (headIdx (S.m b)) k)) else _) = _
  rw [if_pos (by unfold headIdx; rw [he]; decide)]
  show iter cf (prApp cf R0) (n + 2) (some (layK cf s t (S.m b) (headIdx (S.m b)) k)) (S.w 1 S.m) = _
  rw [it_lay (S := S.w 1 S.m) (head := S.m b) hb hl hbn hln hne rfl]
  rfl
/-- Is a ticket dead? -/
def deadM (c : Cf) (m : Nat → Nat) (t : Nat) : Bool :=
  decide (¬ (part (m (c.nodesAt + 4 * part (m (c.ticketsAt + 3 * t)) 0 16)) 0 2 = 1) ∨ ¬ (((part (m (c.nodesAt + 4 * part (m (c.ticketsAt + 3 * t)) 0 16)) 32 32 : Nat) : Int) = (part (m (c.ticketsAt + 3 * t)) 32 32 : Nat)))
theorem it_dead {n : Nat} {ρ : Type} {R : ρ → Arg → St → St × Option (K ρ)} {t : Nat} {c : C ρ} {S : St} (hn : S.n = cf.size) (ht : t < cf.tickets) (hd : part (S.m (cf.ticketsAt + 3 * t)) 0 16 < cf.nodes) :
    iter cf R (n + 2) (some (deadK cf t c)) S = iterR cf R n (app cf R c (.b (deadM cf S.m t)) (S.w 2 S.m)) := by
  have h1 : cf.ticketsAt + 3 * t + 2 < cf.size := by unfold Cf.size Cf.connsAt; omega
  have h2 : cf.nodesAt + 4 * part (S.m (cf.ticketsAt + 3 * t)) 0 16 < cf.ticketsAt := by have : cf.ticketsAt = cf.nodesAt + 4 * cf.nodes := rfl; omega
  have e1 : cf.key t = ((cf.ticketsAt + 3 * t : Nat) : Int) := ticket_at cf t ht 0
  unfold deadK
  rw [e1, it_load (by omega)]
  show iter cf R (n + 1) (some (.load (cf.state (part (S.m (cf.ticketsAt + 3 * t)) 0 16 : Nat)) (.deadB (part (S.m (cf.ticketsAt + 3 * t)) 32 32 : Nat) c))) (S.w 1 S.m) = _
  rw [state_at cf _ hd, it_load (S := S.w 1 S.m) (by show _ < S.n; omega)]
  rfl
theorem it_put_alive {n : Nat} {s t : Int} {b l f : Nat} {k : PR ρ} {S : St} (hn : S.n = cf.size) (hb : cf.inbox s = (b : Int)) (hl : cf.ticketLink t = (l : Int)) (hbn : b < S.n) (hln : l < S.n) (hne : l ≠ b) (he : part (S.m b) 0 32 = f + 1)
    (hf : f < cf.tickets) (hfn : part (S.m (cf.ticketsAt + 3 * f)) 0 16 < cf.nodes) (hd : deadM cf S.m f = false) :
    iter cf (prApp cf R0) (n + 5) (some (putK cf s t k)) S = iterR cf (prApp cf R0) n (prApp cf R0 k .u (S.w 5 (upd (upd S.m l (part (S.m b) 0 32)) b (turned (S.m b) t)))) := by
  unfold putK
  rw [hb, it_load hbn]
  show iterR cf (prApp cf R0) (n + 4) (if headIdx (S.m b) < 0 then _ else (_, some (deadK cf (headIdx (S.m b)) (.ret (.putB s t (S.m b) (headIdx (S.m b)) k))))) = _
  rw [if_neg (by rw [headIdx_nat he]; omega)]
  have e : headIdx (S.m b) = (f : Int) := headIdx_nat he
  show iter cf (prApp cf R0) (n + 4) (some (deadK cf (headIdx (S.m b)) (.ret (.putB s t (S.m b) (headIdx (S.m b)) k)))) (S.w 1 S.m) = _
  rw [show deadK cf (headIdx (S.m b)) (C.ret (PR.putB s t (S.m b) (headIdx (S.m b)) k)) = deadK cf (f : Int) (C.ret (PR.putB s t (S.m b) (headIdx (S.m b)) k)) by rw [e], it_dead (S := S.w 1 S.m) hn hf hfn]
  show iterR cf (prApp cf R0) (n + 2) (if deadM cf S.m f = true then _ else (_, some (layK cf s t (S.m b) (headIdx (S.m b)) k))) = _
  rw [if_neg (by rw [hd]; decide)]
  show iter cf (prApp cf R0) (n + 2) (some (layK cf s t (S.m b) (headIdx (S.m b)) k)) (S.w 3 S.m) = _
  rw [it_lay (S := S.w 3 S.m) (head := S.m b) hb hl hbn hln hne rfl]
  rfl
/-- The first ticket, which is dead, is taken out, and freed; then it is tried again. -/
theorem it_put_dead {n : Nat} {s t : Int} {b f lf : Nat} {k : PR ρ} {S : St} (hn : S.n = cf.size) (hb : cf.inbox s = (b : Int)) (hlf : lf = cf.ticketsAt + 3 * f + 2) (hbn : b < S.n) (hb3 : 3 ≤ b) (hbt : b < cf.ticketsAt) (he : part (S.m b) 0 32 = f + 1)
    (hf : f < cf.tickets) (hfn : part (S.m (cf.ticketsAt + 3 * f)) 0 16 < cf.nodes) (hd : deadM cf S.m f = true) (hx : S.m lf ≤ 4294967295) :
    iter cf (prApp cf R0) (n + 8) (some (putK cf s t k)) S = iter cf (prApp cf R0) n (some (putK cf s t k)) (S.w 8 (upd (upd (upd S.m b (turned (S.m b) ((S.m lf : Int) - 1))) lf (part (S.m 2) 0 32)) 2 (turned (S.m 2) f))) := by
  have hsz : cf.ticketsAt + 3 * f + 2 < cf.size := by unfold Cf.size Cf.connsAt; omega
  have el : cf.ticketLink (f : Int) = (lf : Int) := by rw [hlf]; exact ticketLink_at cf f hf
  unfold putK
  rw [hb, it_load hbn]
  show iterR cf (prApp cf R0) (n + 7) (if headIdx (S.m b) < 0 then _ else (_, some (deadK cf (headIdx (S.m b)) (.ret (.putB s t (S.m b) (headIdx (S.m b)) k))))) = _
  rw [if_neg (by rw [headIdx_nat he]; omega)]
  have e : headIdx (S.m b) = (f : Int) := headIdx_nat he
  show iter cf (prApp cf R0) (n + 7) (some (deadK cf (headIdx (S.m b)) (.ret (.putB s t (S.m b) (headIdx (S.m b)) k)))) (S.w 1 S.m) = _
  rw [show deadK cf (headIdx (S.m b)) (C.ret (PR.putB s t (S.m b) (headIdx (S.m b)) k)) = deadK cf (f : Int) (C.ret (PR.putB s t (S.m b) (f : Int) k)) by rw [e], it_dead (S := S.w 1 S.m) hn hf hfn]
  show iterR cf (prApp cf R0) (n + 5) (if deadM cf S.m f = true then (_, some (.load (cf.ticketLink (f : Int)) (.ret (.helpA s t (S.m b) (f : Int) k)))) else _) = _
  rw [if_pos hd]
  show iter cf (prApp cf R0) (n + 5) (some (.load (cf.ticketLink (f : Int)) (.ret (.helpA s t (S.m b) (f : Int) k)))) (S.w 3 S.m) = _
  rw [el, it_load (S := S.w 3 S.m) (by show lf < S.n; omega)]
  show iter cf (prApp cf R0) (n + 4) (some (.cas (cf.inbox s) (S.m b) (turned (S.m b) (wrap64 (toI (S.m lf) - 1))) (.ret (.helpB s t (f : Int) k)))) (S.w 4 S.m) = _
  rw [hb, it_cas (S := S.w 4 S.m) (old := S.m b) hbn rfl, wrap_next _ hx]
  show iter cf (prApp cf R0) (n + 3) (some (pushK .tickets (f : Int) (.ret (.again s t k)))) (S.w 5 (upd S.m b (turned (S.m b) ((S.m lf : Int) - 1)))) = _
  rw [it_push (st := .tickets) (cf := cf) (i := (f : Int)) (S := S.w 5 (upd S.m b (turned (S.m b) ((S.m lf : Int) - 1)))) (l := lf) (by show 2 < S.n; omega) el (by show lf < S.n; omega) (by show lf ≠ 2; omega)]
  have e2 : upd S.m b (turned (S.m b) ((S.m lf : Int) - 1)) 2 = S.m 2 := by unfold upd; rw [if_neg (by omega)]
  show iter cf (prApp cf R0) n (some (putK cf s t k)) (S.w 8 (upd (upd (upd S.m b (turned (S.m b) ((S.m lf : Int) - 1))) lf (part (upd S.m b (turned (S.m b) ((S.m lf : Int) - 1)) 2) 0 32)) 2 (turned (upd S.m b (turned (S.m b) ((S.m lf : Int) - 1)) 2) f))) = _
  rw [e2]
  unfold putK
  rw [hb]
end
end Go.Proofs.YtgemjjpmoejgdaaGreat
/- All there is while one program runs after the other; a ticket is put into a box. -/
namespace Go.Proofs.YtgemjjpmoejgdaaGreat
open Go.RowKit
set_option maxRecDepth 100000
set_option linter.unusedVariables false

def nlk (c : Cf) (i : Nat) : Nat := c.nodesAt + 4 * i + 3
def tlk (c : Cf) (i : Nat) : Nat := c.ticketsAt + 3 * i + 2
def inb (c : Cf) (s : Nat) : Nat := 3 + s * c.shard
theorem inb_lt {c : Cf} {s : Nat} (hs : s < c.workers) : inb c s + 5 < c.nodesAt + 6 - 6 + 0 + 0 ∨ inb c s < c.nodesAt := by
  refine .inr ?_
  have h1 : (s + 1) * c.shard ≤ c.workers * c.shard := Nat.mul_le_mul_right _ hs
  rw [Nat.add_mul, Nat.one_mul] at h1
  have h2 : 3 ≤ c.shard := by unfold Cf.shard; omega
  unfold inb Cf.nodesAt
  omega
theorem inb_at {c : Cf} {s : Nat} (hs : s < c.workers) : c.inbox s = (inb c s : Int) := by
  unfold Cf.inbox Cf.at_ inb
  rw [among_yes ⟨by omega, by omega⟩, Int.natCast_add, Int.natCast_mul]
  rfl
theorem inb_bd {c : Cf} {s : Nat} (hs : s < c.workers) : 3 ≤ inb c s ∧ inb c s < c.nodesAt := ⟨by unfold inb; omega, by rcases inb_lt hs with h | h <;> omega⟩
theorem inb_inj {c : Cf} {s s' : Nat} (h : inb c s = inb c s') : s = s' := by
  unfold inb at h
  have h2 : 0 < c.shard := by unfold Cf.shard; omega
  exact Nat.eq_of_mul_eq_mul_right h2 (by omega)

theorem upd_same (m : Nat → Nat) (i v : Nat) : upd m i v i = v := by unfold upd; rw [if_pos rfl]
theorem upd_other (m : Nat → Nat) {i j : Nat} (v : Nat) (h : j ≠ i) : upd m i v j = m j := by unfold upd; rw [if_neg h]

/-- All there is: the free nodes, the free tickets, each shard's box. -/
structure Shop (c : Cf) (m : Nat → Nat) (fn ft : List Nat) (bx : Nat → List Nat) : Prop where
  nodes : Ch m (nlk c) (part (m 1) 0 32) fn
  tickets : Ch m (tlk c) (part (m 2) 0 32) ft
  boxes : ∀ s, s < c.workers → Ch m (tlk c) (part (m (inb c s)) 0 32) (bx s)
  nlt : ∀ x ∈ fn, x < c.nodes
  tlt : ∀ x ∈ ft, x < c.tickets
  blt : ∀ s, s < c.workers → ∀ x ∈ bx s, x < c.tickets
  nnd : fn.Nodup
  tnd : ft.Nodup
  bnd : ∀ s, s < c.workers → (bx s).Nodup
  tb : ∀ s, s < c.workers → ∀ x ∈ ft, x ∉ bx s
  bb : ∀ s s', s < c.workers → s' < c.workers → s ≠ s' → ∀ x ∈ bx s, x ∉ bx s'
  key : ∀ s, s < c.workers → ∀ x ∈ bx s, part (m (c.ticketsAt + 3 * x)) 0 16 < c.nodes
def setB (bx : Nat → List Nat) (s : Nat) (l : List Nat) : Nat → List Nat := fun s' => if s' = s then l else bx s'
theorem setB_same (bx : Nat → List Nat) (s : Nat) (l : List Nat) : setB bx s l s = l := by unfold setB; rw [if_pos rfl]
theorem setB_other (bx : Nat → List Nat) {s s' : Nat} (l : List Nat) (h : s' ≠ s) : setB bx s l s' = bx s' := by unfold setB; rw [if_neg h]

theorem nlk_lt {c : Cf} {i : Nat} (h : i < c.nodes) : nlk c i < c.ticketsAt ∧ c.nodesAt ≤ nlk c i := by unfold nlk Cf.ticketsAt; omega
theorem tlk_lt {c : Cf} {i : Nat} (h : i < c.tickets) : tlk c i < c.size ∧ c.ticketsAt ≤ tlk c i := by unfold tlk Cf.size Cf.connsAt; omega
theorem tlk_inj {c : Cf} {i j : Nat} (h : tlk c i = tlk c j) : i = j := by unfold tlk at h; omega
theorem nlk_inj {c : Cf} {i j : Nat} (h : nlk c i = nlk c j) : i = j := by unfold nlk at h; omega
theorem nodes_tickets (c : Cf) : c.nodesAt ≤ c.ticketsAt := by unfold Cf.ticketsAt; omega
theorem deadM_same {c : Cf} {m m' : Nat → Nat} {t : Nat} (h1 : m' (c.ticketsAt + 3 * t) = m (c.ticketsAt + 3 * t)) (h2 : m' (c.nodesAt + 4 * part (m (c.ticketsAt + 3 * t)) 0 16) = m (c.nodesAt + 4 * part (m (c.ticketsAt + 3 * t)) 0 16)) : deadM c m' t = deadM c m t := by
  unfold deadM; rw [h1, h2]

/-- What is turned lies in a box's head, the free tickets' head, tickets' links. -/
def BoxFrame (c : Cf) (s : Nat) (m m' : Nat → Nat) : Prop := ∀ j, j ≠ inb c s → j ≠ 2 → (∀ x, x < c.tickets → j ≠ tlk c x) → m' j = m j
theorem BoxFrame.trans {c : Cf} {s : Nat} {m m1 m2 : Nat → Nat} (h : BoxFrame c s m m1) (k : BoxFrame c s m1 m2) : BoxFrame c s m m2 := fun j a b d => (k j a b d).trans (h j a b d)

/-- A box's first ticket is taken out and freed. -/
theorem Shop.free {c : Cf} {m : Nat → Nat} {fn ft : List Nat} {bx : Nat → List Nat} {s f : Nat} {l : List Nat} (hok : c.Ok) (h : Shop c m fn ft bx) (hs : s < c.workers) (hb : bx s = f :: l) :
    Shop c (upd (upd (upd m (inb c s) (turned (m (inb c s)) ((m (tlk c f) : Int) - 1))) (tlk c f) (part (m 2) 0 32)) 2 (turned (m 2) f)) fn (f :: ft) (setB bx s l) := by
  have hf : f < c.tickets := h.blt s hs f (by rw [hb]; exact List.mem_cons_self ..)
  have hch := h.boxes s hs
  rw [hb] at hch
  have ht2 := hok.t2
  have hbd := inb_bd hs
  have hnt := nodes_tickets c
  have hn9 := hok.nodesAt_le
  have hfl := tlk_lt hf
  have hle : m (tlk c f) ≤ 8192 := by
    have := hch.2.head_le (n := c.tickets) fun x hx => h.blt s hs x (by rw [hb]; exact List.mem_cons_of_mem _ hx)
    omega
  have hnd := h.bnd s hs
  rw [hb] at hnd
  have hfl' : f ∉ l := (List.nodup_cons.1 hnd).1
  have e1 : ∀ j, j ≠ inb c s → j ≠ tlk c f → j ≠ 2 → upd (upd (upd m (inb c s) (turned (m (inb c s)) ((m (tlk c f) : Int) - 1))) (tlk c f) (part (m 2) 0 32)) 2 (turned (m 2) f) j = m j := fun j a b d => by
    rw [upd_other _ _ d, upd_other _ _ b, upd_other _ _ a]
  have chain : ∀ {lk : Nat → Nat} {p : Nat} {xs : List Nat}, Ch m lk p xs → (∀ x ∈ xs, lk x ≠ inb c s ∧ lk x ≠ tlk c f ∧ lk x ≠ 2) → Ch (upd (upd (upd m (inb c s) (turned (m (inb c s)) ((m (tlk c f) : Int) - 1))) (tlk c f) (part (m 2) 0 32)) 2 (turned (m 2) f)) lk p xs := fun hc hx =>
    ((hc.upd fun x hm => (hx x hm).1).upd fun x hm => (hx x hm).2.1).upd fun x hm => (hx x hm).2.2
  have tl : ∀ x, x < c.tickets → x ≠ f → tlk c x ≠ inb c s ∧ tlk c x ≠ tlk c f ∧ tlk c x ≠ 2 := fun x hx hne => ⟨by have := tlk_lt hx; omega, fun e => hne (tlk_inj e), by have := tlk_lt hx; omega⟩
  have hnf : ∀ s', s' < c.workers → s' ≠ s → ∀ x ∈ bx s', x ≠ f := fun s' hs' hne x hx e => h.bb s' s hs' hs hne x hx (by rw [hb, e]; exact List.mem_cons_self ..)
  refine ⟨?_, ?_, ?_, h.nlt, ?_, ?_, h.nnd, ?_, ?_, ?_, ?_, ?_⟩
  · rw [e1 1 (by omega) (by omega) (by omega)]
    exact chain h.nodes fun x hx => by have := nlk_lt (h.nlt x hx); omega
  · rw [upd_same]
    refine ⟨headIdx_turned _ _ (by omega), ?_⟩
    rw [upd_other _ _ (by omega), upd_same]
    exact chain h.tickets fun x hx => tl x (h.tlt x hx) fun e => h.tb s hs x hx (by rw [hb, e]; exact List.mem_cons_self ..)
  · intro s' hs'
    by_cases e : s' = s
    · subst e
      rw [setB_same, upd_other _ _ (by omega), upd_other _ _ (by omega), upd_same, headIdx_next _ _ (by omega)]
      exact chain hch.2 fun x hx => tl x (h.blt s' hs x (by rw [hb]; exact List.mem_cons_of_mem _ hx)) fun e => hfl' (e ▸ hx)
    · have h2 := inb_bd hs'
      rw [setB_other _ _ e, e1 _ (fun q => e (inb_inj q)) (by omega) (by omega)]
      exact chain (h.boxes s' hs') fun x hx => tl x (h.blt s' hs' x hx) (hnf s' hs' e x hx)
  · intro x hx
    rcases List.mem_cons.1 hx with rfl | hx
    · exact hf
    · exact h.tlt x hx
  · intro s' hs' x hx
    by_cases e : s' = s
    · subst e; rw [setB_same] at hx; exact h.blt s' hs x (by rw [hb]; exact List.mem_cons_of_mem _ hx)
    · rw [setB_other _ _ e] at hx; exact h.blt s' hs' x hx
  · exact List.nodup_cons.2 ⟨fun hx => h.tb s hs f hx (by rw [hb]; exact List.mem_cons_self ..), h.tnd⟩
  · intro s' hs'
    by_cases e : s' = s
    · subst e; rw [setB_same]; exact (List.nodup_cons.1 hnd).2
    · rw [setB_other _ _ e]; exact h.bnd s' hs'
  · intro s' hs' x hx
    by_cases e : s' = s
    · subst e
      rw [setB_same]
      rcases List.mem_cons.1 hx with rfl | hx
      · exact hfl'
      · intro q; exact h.tb s' hs x hx (by rw [hb]; exact List.mem_cons_of_mem _ q)
    · rw [setB_other _ _ e]
      rcases List.mem_cons.1 hx with rfl | hx
      · exact fun q => hnf s' hs' e x q rfl
      · exact h.tb s' hs' x hx
  · intro s1 s2 h1 h2 hne x hx
    by_cases e1 : s1 = s
    · subst e1
      rw [setB_same] at hx
      rw [setB_other _ _ (Ne.symm hne)]
      exact h.bb s1 s2 h1 h2 hne x (by rw [hb]; exact List.mem_cons_of_mem _ hx)
    · rw [setB_other _ _ e1] at hx
      by_cases e2 : s2 = s
      · subst e2; rw [setB_same]; exact fun q => h.bb s1 s2 h1 h2 hne x hx (by rw [hb]; exact List.mem_cons_of_mem _ q)
      · rw [setB_other _ _ e2]; exact h.bb s1 s2 h1 h2 hne x hx
  · intro s' hs' x hx
    have hm : x < c.tickets ∧ part (m (c.ticketsAt + 3 * x)) 0 16 < c.nodes := by
      by_cases e : s' = s
      · subst e; rw [setB_same] at hx
        have hx' : x ∈ bx s' := by rw [hb]; exact List.mem_cons_of_mem _ hx
        exact ⟨h.blt s' hs x hx', h.key s' hs x hx'⟩
      · rw [setB_other _ _ e] at hx; exact ⟨h.blt s' hs' x hx, h.key s' hs' x hx⟩
    rw [e1 _ (by omega) (by unfold tlk; omega) (by omega)]
    exact hm.2

/-- A ticket that is nowhere is laid into a box, ahead of all that lie there. -/
theorem Shop.lay {c : Cf} {m : Nat → Nat} {fn ft : List Nat} {bx : Nat → List Nat} {s t : Nat} (hok : c.Ok) (h : Shop c m fn ft bx) (hs : s < c.workers) (ht : t < c.tickets) (hft : t ∉ ft) (hbx : ∀ s', s' < c.workers → t ∉ bx s') (hk : part (m (c.ticketsAt + 3 * t)) 0 16 < c.nodes) :
    Shop c (upd (upd m (tlk c t) (part (m (inb c s)) 0 32)) (inb c s) (turned (m (inb c s)) t)) fn ft (setB bx s (t :: bx s)) := by
  have ht2 := hok.t2
  have hbd := inb_bd hs
  have hnt := nodes_tickets c
  have hn9 := hok.nodesAt_le
  have hfl := tlk_lt ht
  have e1 : ∀ j, j ≠ inb c s → j ≠ tlk c t → upd (upd m (tlk c t) (part (m (inb c s)) 0 32)) (inb c s) (turned (m (inb c s)) t) j = m j := fun j a b => by
    rw [upd_other _ _ a, upd_other _ _ b]
  have chain : ∀ {lk : Nat → Nat} {p : Nat} {xs : List Nat}, Ch m lk p xs → (∀ x ∈ xs, lk x ≠ inb c s ∧ lk x ≠ tlk c t) → Ch (upd (upd m (tlk c t) (part (m (inb c s)) 0 32)) (inb c s) (turned (m (inb c s)) t)) lk p xs := fun hc hx =>
    (hc.upd fun x hm => (hx x hm).2).upd fun x hm => (hx x hm).1
  have tl : ∀ x, x < c.tickets → x ≠ t → tlk c x ≠ inb c s ∧ tlk c x ≠ tlk c t := fun x hx hne => ⟨by have := tlk_lt hx; omega, fun e => hne (tlk_inj e)⟩
  refine ⟨?_, ?_, ?_, h.nlt, h.tlt, ?_, h.nnd, h.tnd, ?_, ?_, ?_, ?_⟩
  · rw [e1 1 (by omega) (by omega)]
    exact chain h.nodes fun x hx => by have := nlk_lt (h.nlt x hx); omega
  · rw [e1 2 (by omega) (by omega)]
    exact chain h.tickets fun x hx => tl x (h.tlt x hx) fun e => hft (e ▸ hx)
  · intro s' hs'
    by_cases e : s' = s
    · subst e
      rw [setB_same, upd_same]
      refine ⟨headIdx_turned _ _ (by omega), ?_⟩
      rw [upd_other _ _ (by omega), upd_same]
      exact chain (h.boxes s' hs) fun x hx => tl x (h.blt s' hs x hx) fun e => hbx s' hs (e ▸ hx)
    · have h2 := inb_bd hs'
      rw [setB_other _ _ e, e1 _ (fun q => e (inb_inj q)) (by omega)]
      exact chain (h.boxes s' hs') fun x hx => tl x (h.blt s' hs' x hx) fun e => hbx s' hs' (e ▸ hx)
  · intro s' hs' x hx
    by_cases e : s' = s
    · subst e; rw [setB_same] at hx
      rcases List.mem_cons.1 hx with rfl | hx
      · exact ht
      · exact h.blt s' hs x hx
    · rw [setB_other _ _ e] at hx; exact h.blt s' hs' x hx
  · intro s' hs'
    by_cases e : s' = s
    · subst e; rw [setB_same]; exact List.nodup_cons.2 ⟨hbx s' hs, h.bnd s' hs⟩
    · rw [setB_other _ _ e]; exact h.bnd s' hs'
  · intro s' hs' x hx
    by_cases e : s' = s
    · subst e; rw [setB_same]
      intro q
      rcases List.mem_cons.1 q with rfl | q
      · exact hft hx
      · exact h.tb s' hs x hx q
    · rw [setB_other _ _ e]; exact h.tb s' hs' x hx
  · intro s1 s2 h1 h2 hne x hx
    by_cases e1 : s1 = s
    · subst e1
      rw [setB_same] at hx
      rw [setB_other _ _ (Ne.symm hne)]
      rcases List.mem_cons.1 hx with rfl | hx
      · exact hbx s2 h2
      · exact h.bb s1 s2 h1 h2 hne x hx
    · rw [setB_other _ _ e1] at hx
      by_cases e2 : s2 = s
      · subst e2; rw [setB_same]
        intro q
        rcases List.mem_cons.1 q with rfl | q
        · exact hbx s1 h1 hx
        · exact h.bb s1 s2 h1 h2 hne x hx q
      · rw [setB_other _ _ e2]; exact h.bb s1 s2 h1 h2 hne x hx
  · intro s' hs' x hx
    have hm : x < c.tickets ∧ part (m (c.ticketsAt + 3 * x)) 0 16 < c.nodes := by
      by_cases e : s' = s
      · subst e; rw [setB_same] at hx
        rcases List.mem_cons.1 hx with rfl | hx
        · exact ⟨ht, hk⟩
        · exact ⟨h.blt s' hs x hx, h.key s' hs x hx⟩
      · rw [setB_other _ _ e] at hx; exact ⟨h.blt s' hs' x hx, h.key s' hs' x hx⟩
    rw [e1 _ (by omega) (by unfold tlk; omega)]
    exact hm.2

section
variable {ρ : Type} {R0 : ρ → Arg → St → St × Option (K (PR ρ))}
/-- A ticket is put into a box: the dead ones that are first are freed. -/
theorem put_alone {c : Cf} (hok : c.Ok) {s t : Nat} (hs : s < c.workers) (ht : t < c.tickets) {fn : List Nat} : ∀ (l : List Nat) {S : St} {ft : List Nat} {bx : Nat → List Nat}, bx s = l → S.n = c.size → Shop c S.m fn ft bx → t ∉ ft → (∀ s', s' < c.workers → t ∉ bx s') →
    part (S.m (c.ticketsAt + 3 * t)) 0 16 < c.nodes → ∃ d m', (∀ n k, iter c (prApp c R0) (n + d) (some (putK c s t k)) S = iterR c (prApp c R0) n (prApp c R0 k .u (S.w d m'))) ∧ d ≤ 8 * (l.takeWhile (deadM c S.m)).length + 5 ∧
      Shop c m' fn ((l.takeWhile (deadM c S.m)).reverse ++ ft) (setB bx s (t :: l.dropWhile (deadM c S.m))) ∧ BoxFrame c s S.m m'
  | [], S, ft, bx, hb, hn, h, hft, hbx, hk => by
    have hbd := inb_bd hs
    have htl := tlk_lt ht
    have hch := h.boxes s hs
    rw [hb] at hch
    have hnt := nodes_tickets c
    have hsz : c.ticketsAt ≤ c.size := by unfold Cf.size Cf.connsAt; omega
    refine ⟨3, _, fun n k => it_put_empty (inb_at hs) (ticketLink_at c t ht) (by omega) (by rw [hn]; exact htl.1) (by show tlk c t ≠ inb c s; omega) hch, by simp, ?_, ?_⟩
    · have := h.lay hok hs ht hft hbx hk
      rw [hb] at this
      exact this
    · intro j a b d
      rw [upd_other _ _ a]; exact upd_other _ _ (d t ht)
  | f :: l, S, ft, bx, hb, hn, h, hft, hbx, hk => by
    have hbd := inb_bd hs
    have htl := tlk_lt ht
    have hch := h.boxes s hs
    rw [hb] at hch
    have hnt := nodes_tickets c
    have hsz : c.ticketsAt ≤ c.size := by unfold Cf.size Cf.connsAt; omega
    have hf : f < c.tickets := h.blt s hs f (by rw [hb]; exact List.mem_cons_self ..)
    have hfk := h.key s hs f (by rw [hb]; exact List.mem_cons_self ..)
    cases hd : deadM c S.m f with
    | false =>
      rw [List.takeWhile_cons, List.dropWhile_cons, hd]
      refine ⟨5, _, fun n k => it_put_alive hn (inb_at hs) (ticketLink_at c t ht) (by omega) (by rw [hn]; exact htl.1) (by show tlk c t ≠ inb c s; omega) hch.1 hf hfk hd, by simp, ?_, ?_⟩
      · have := h.lay hok hs ht hft hbx hk
        rw [hb] at this
        exact this
      · intro j a b d
        rw [upd_other _ _ a]; exact upd_other _ _ (d t ht)
    | true =>
      rw [List.takeWhile_cons, List.dropWhile_cons, hd]
      have hle : S.m (tlk c f) ≤ 8192 := by
        have := hch.2.head_le (n := c.tickets) fun x hx => h.blt s hs x (by rw [hb]; exact List.mem_cons_of_mem _ hx)
        have := hok.t2
        omega
      have h1 := h.free hok hs hb
      have hfne : t ≠ f := fun e => hbx s hs (by rw [hb, e]; exact List.mem_cons_self ..)
      have fr1 : BoxFrame c s S.m (upd (upd (upd S.m (inb c s) (turned (S.m (inb c s)) ((S.m (tlk c f) : Int) - 1))) (tlk c f) (part (S.m 2) 0 32)) 2 (turned (S.m 2) f)) := fun j a b d => by
        rw [upd_other _ _ b, upd_other _ _ (d f hf), upd_other _ _ a]
      generalize hm1 : upd (upd (upd S.m (inb c s) (turned (S.m (inb c s)) ((S.m (tlk c f) : Int) - 1))) (tlk c f) (part (S.m 2) 0 32)) 2 (turned (S.m 2) f) = m1 at *
      have hn9 := hok.nodesAt_le
      have hkey : ∀ x, m1 (c.ticketsAt + 3 * x) = S.m (c.ticketsAt + 3 * x) := fun x => fr1 _ (by omega) (by omega) (fun y _ => by unfold tlk; omega)
      have hstate : ∀ x, x < c.nodes → m1 (c.nodesAt + 4 * x) = S.m (c.nodesAt + 4 * x) := fun x hx => fr1 _ (by omega) (by omega) (fun y _ => by unfold tlk Cf.ticketsAt; omega)
      have hsame : ∀ x ∈ l, deadM c m1 x = deadM c S.m x := fun x hx => deadM_same (hkey x) (hstate _ (h.key s hs x (by rw [hb]; exact List.mem_cons_of_mem _ hx)))
      have htw : l.takeWhile (deadM c m1) = l.takeWhile (deadM c S.m) ∧ l.dropWhile (deadM c m1) = l.dropWhile (deadM c S.m) := by
        clear hm1 h1 hb hch hk fr1 hkey hstate
        induction l with
        | nil => exact ⟨rfl, rfl⟩
        | cons y l ih =>
          have e := hsame y (List.mem_cons_self ..)
          obtain ⟨i1, i2⟩ := ih fun x hx => hsame x (List.mem_cons_of_mem _ hx)
          rw [List.takeWhile_cons, List.takeWhile_cons, List.dropWhile_cons, List.dropWhile_cons, e, i1, i2]
          exact ⟨rfl, rfl⟩
      obtain ⟨d, m', hi, hdl, hsh, hfr⟩ := put_alone hok hs ht (fn := fn) l (S := S.w 8 m1) (ft := f :: ft) (bx := setB bx s l) (setB_same _ _ _) hn h1
        (by intro q; rcases List.mem_cons.1 q with e | q; exact hfne e; exact hft q)
        (by
          intro s' hs'
          by_cases e : s' = s
          · subst e; rw [setB_same]; exact fun q => hbx s' hs' (by rw [hb]; exact List.mem_cons_of_mem _ q)
          · rw [setB_other _ _ e]; exact hbx s' hs')
        (by show part (m1 _) 0 16 < _; rw [hkey]; exact hk)
      refine ⟨8 + d, m', ?_, ?_, ?_, fr1.trans hfr⟩
      · intro n k
        rw [show n + (8 + d) = (n + d) + 8 by omega, it_put_dead hn (inb_at hs) rfl (by omega) hbd.1 (by omega) hch.1 hf hfk hd (by show S.m (tlk c f) ≤ _; omega)]
        show iter c (prApp c R0) (n + d) (some (putK c s t k)) (S.w 8 (upd (upd (upd S.m (inb c s) (turned (S.m (inb c s)) ((S.m (tlk c f) : Int) - 1))) (tlk c f) (part (S.m 2) 0 32)) 2 (turned (S.m 2) f))) = _
        rw [hm1, hi]
        have e : (S.w 8 m1).w d m' = S.w (8 + d) m' := by unfold St.w; simp only [Nat.add_assoc]
        rw [e]
      · have hdl' : d ≤ 8 * (l.takeWhile (deadM c m1)).length + 5 := hdl
        rw [htw.1] at hdl'
        simp only [if_true, List.length_cons]
        omega
      · have hsh' : Shop c m' fn ((l.takeWhile (deadM c m1)).reverse ++ (f :: ft)) (setB (setB bx s l) s (t :: l.dropWhile (deadM c m1))) := hsh
        rw [htw.1, htw.2] at hsh'
        have e : setB (setB bx s l) s (t :: l.dropWhile (deadM c S.m)) = setB bx s (t :: l.dropWhile (deadM c S.m)) := by
          funext x; unfold setB; split <;> rfl
        rw [e] at hsh'
        simp only [if_true, List.reverse_cons, List.append_assoc, List.singleton_append]
        exact hsh'
end
end Go.Proofs.YtgemjjpmoejgdaaGreat
