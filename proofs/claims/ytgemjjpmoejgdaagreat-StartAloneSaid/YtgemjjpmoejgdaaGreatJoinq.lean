/- A region by an invariant: what its slots hold, by a table. -/
import Derived.Test.YtgemjjpmoejgdaaGreatJoinp
import Derived.Laws.OwnMore
import Derived.Maps.AppendAt
namespace Go.Proofs.YtgemjjpmoejgdaaGreat
open Go
set_option linter.unusedVariables false

/-- What a slot holds. -/
def slotOf (a : Act) (s : Nat) : Value := a.tmps.getD s undef
theorem slot_eval (a : Act) (s : Nat) : a.eval (.tmp s) = slotOf a s := rfl
theorem slot_put_same {a : Act} {d : Nat} {v : Value} (h : d < a.tmps.size) : slotOf (a.put (some d) v) d = v := by
  unfold slotOf Act.put
  dsimp only
  simp [h]
theorem slot_put_other {a : Act} {d s : Nat} {v : Value} (h : s ≠ d) : slotOf (a.put (some d) v) s = slotOf a s := by
  unfold slotOf Act.put
  dsimp only
  by_cases hs : s < a.tmps.size
  · simp [hs, Ne.symm h]
  · simp [hs]
/-- Only these slots were turned. -/
structure Fr (S : List Nat) (a0 a : Act) : Prop where
  size : a.tmps.size = a0.tmps.size
  defers : a.defers = a0.defers
  rest : ∀ s, s ∉ S → slotOf a s = slotOf a0 s
theorem Fr.refl (S : List Nat) (a : Act) : Fr S a a := ⟨rfl, rfl, fun _ _ => rfl⟩
theorem Fr.put {S : List Nat} {a0 a : Act} {d : Nat} {v : Value} (h : Fr S a0 a) (hd : d ∈ S) : Fr S a0 (a.put (some d) v) :=
  ⟨by rw [← h.size]; unfold Act.put; simp, h.defers, fun s hs => by rw [slot_put_other (fun e => hs (by rw [e]; exact hd))]; exact h.rest s hs⟩
theorem foldl_put_size (S : List Nat) (f : Nat → Value) : ∀ a : Act, (S.foldl (fun x d => x.put (some d) (f d)) a).tmps.size = a.tmps.size := by
  induction S with
  | nil => intro a; rfl
  | cons d S ih => intro a; rw [List.foldl_cons, ih]; unfold Act.put; simp
theorem foldl_put_defers (S : List Nat) (f : Nat → Value) : ∀ a : Act, (S.foldl (fun x d => x.put (some d) (f d)) a).defers = a.defers := by
  induction S with
  | nil => intro a; rfl
  | cons d S ih => intro a; rw [List.foldl_cons, ih]; rfl
theorem foldl_put_slot (S : List Nat) (f : Nat → Value) (s : Nat) : ∀ a : Act, s < a.tmps.size → slotOf (S.foldl (fun x d => x.put (some d) (f d)) a) s = if s ∈ S then f s else slotOf a s := by
  induction S with
  | nil => intro a _; rfl
  | cons d S ih =>
    intro a hs
    rw [List.foldl_cons, ih _ (by unfold Act.put; simpa using hs)]
    by_cases h1 : s ∈ S
    · rw [if_pos h1, if_pos (List.mem_cons_of_mem _ h1)]
    · rw [if_neg h1]
      by_cases h2 : s = d
      · subst h2
        rw [if_pos (List.mem_cons_self ..), slot_put_same hs]
      · rw [if_neg (by intro q; rcases List.mem_cons.1 q with q | q; exact h2 q; exact h1 q), slot_put_other h2]
/-- The frame, written out. -/
theorem act_ext {a b : Act} (h1 : a.tmps.size = b.tmps.size) (h2 : a.defers = b.defers) (h : ∀ s, s < a.tmps.size → slotOf a s = slotOf b s) : a = b := by
  rcases a with ⟨t, df⟩
  rcases b with ⟨t2, df2⟩
  dsimp only at h1 h2
  rw [Act.mk.injEq]
  refine ⟨Array.ext h1 fun i hi hi2 => ?_, h2⟩
  have e := h i hi
  unfold slotOf at e
  simpa [hi, hi2] using e
theorem Fr.lit {S : List Nat} {a0 a : Act} (h : Fr S a0 a) : a = S.foldl (fun x d => x.put (some d) (slotOf a d)) a0 := by
  refine act_ext (by rw [foldl_put_size]; exact h.size) (by rw [foldl_put_defers]; exact h.defers) fun s hs => ?_
  rw [foldl_put_slot S (slotOf a) s a0 (by rw [← h.size]; exact hs)]
  split
  · rfl
  · rename_i hn; exact h.rest s hn
/-- What has been done has left its value: (operation, slot, value). -/
def Vals (tab : List (Nat × Nat × Value)) (listed : Array Bool) (a : Act) : Prop := ∀ p ∈ tab, listed.getD p.1 true = true → slotOf a p.2.1 = p.2.2
theorem getD_set_true (listed : Array Bool) (i : Nat) : (listed.setIfInBounds i true).getD i true = true := by
  by_cases h : i < listed.size
  · simp [h]
  · simp [h]
theorem getD_set_other (listed : Array Bool) {i j : Nat} (h : j ≠ i) : (listed.setIfInBounds i true).getD j true = listed.getD j true := by
  by_cases hj : j < listed.size
  · simp [hj, Ne.symm h]
  · simp [hj]
theorem Vals.none {tab : List (Nat × Nat × Value)} {n : Nat} {a : Act} (h : tab.all (fun p => decide (p.1 < n)) = true) : Vals tab (Array.replicate n false) a := by
  intro p hp hl
  have := of_decide_eq_true (List.all_eq_true.1 h p hp)
  simp [this] at hl
theorem Vals.set {tab : List (Nat × Nat × Value)} {listed : Array Bool} {a : Act} {i d : Nat} {v : Value} (h : Vals tab listed a) (hd : d < a.tmps.size) (hchk : tab.all (fun p => decide (p.1 = i ↔ p.2.1 = d)) = true) (hv : ∀ p ∈ tab, p.1 = i → p.2.2 = v) :
    Vals tab (listed.setIfInBounds i true) (a.put (some d) v) := by
  intro p hp hl
  have hc := of_decide_eq_true (List.all_eq_true.1 hchk p hp)
  by_cases e : p.1 = i
  · rw [hc.1 e, slot_put_same hd, hv p hp e]
  · rw [slot_put_other (fun q => e (hc.2 q))]
    exact h p hp (by rw [getD_set_other _ e] at hl; exact hl)
/-- An operation that writes no slot of the table. -/
theorem Vals.skip {tab : List (Nat × Nat × Value)} {listed : Array Bool} {a : Act} {i : Nat} (h : Vals tab listed a) (hchk : tab.all (fun p => decide (p.1 ≠ i)) = true) : Vals tab (listed.setIfInBounds i true) a := by
  intro p hp hl
  have hc := of_decide_eq_true (List.all_eq_true.1 hchk p hp)
  exact h p hp (by rw [getD_set_other _ hc] at hl; exact hl)
theorem Vals.other {tab : List (Nat × Nat × Value)} {listed : Array Bool} {a : Act} {i d : Nat} {v : Value} (h : Vals tab listed a) (hchk : tab.all (fun p => decide (p.1 ≠ i ∧ p.2.1 ≠ d)) = true) : Vals tab (listed.setIfInBounds i true) (a.put (some d) v) := by
  intro p hp hl
  have hc := of_decide_eq_true (List.all_eq_true.1 hchk p hp)
  rw [slot_put_other hc.2]
  exact h p hp (by rw [getD_set_other _ hc.1] at hl; exact hl)

section
variable {P : Program} {ops : Array Oper} {Q : Exit → Act → World → Prop}
theorem st_gen {i : Nat} {dst : Option Tmp} {op : Op} {ty : TypeId} {pos : String} {after : Array Edge} {K : Act → World → Prop} {a : Act} {w : World} (ho : ops[i]? = some ⟨dst, op, ty, pos, after, none⟩) (h : Oper.wp P ⟨dst, op, ty, pos, after, none⟩ a w K Q) : wpOp P ops Q i K a w := by
  unfold wpOp
  rw [ho]
  exact .inl h
theorem st_move {i : Nat} {dst : Option Tmp} {x : Operand} {ty : TypeId} {pos : String} {after : Array Edge} {K : Act → World → Prop} {a : Act} {w : World} (v : Value) (ho : ops[i]? = some ⟨dst, .move x, ty, pos, after, none⟩) (hx : a.eval x = v) (h : K (a.put dst v) w) : wpOp P ops Q i K a w :=
  st_gen ho (by subst hx; exact h)
theorem st_call {i : Nat} {dst : Option Tmp} {f : FuncId} {args : Array Operand} {ats : Array TypeId} {ty : TypeId} {pos : String} {after : Array Edge} {K : Act → World → Prop} {a : Act} {w : World} (vs : Array Value) (ho : ops[i]? = some ⟨dst, .call ⟨.value (.func f), args, ats⟩, ty, pos, after, none⟩)
    (hen : ∀ args w, (callFunc f args).run P w = .ok (.enter f args) w) (hv : args.map a.eval = vs) (h : Calls P f vs w fun e w' => ∃ v, e = .returned v ∧ K (a.put dst v) w') : wpOp P ops Q i K a w := by
  refine st_gen ho ?_
  unfold Oper.wp
  have e : (execOp a.eval ⟨dst, .call ⟨.value (.func f), args, ats⟩, ty, pos, after, none⟩).run P w = .ok (.enter f vs) w := by
    subst hv
    have e2 : execOp a.eval ⟨dst, .call ⟨.value (.func f), args, ats⟩, ty, pos, after, none⟩ = callFunc f ((#[] ++ args.map a.eval) ++ #[]) := by
      unfold execOp resolve
      simp only [Act.eval]
      rfl
    rw [e2, Array.empty_append, Array.append_empty]
    exact hen _ w
  rw [e, Oper.upon_enter]
  refine h.mono ?_
  rintro e w' ⟨v, rfl, hk⟩
  exact hk

/-- What is owed of one operation. -/
def StepOk (P : Program) (ops : Array Oper) (Q : Exit → Act → World → Prop) (S : List Nat) (tab : List (Nat × Nat × Value)) (J : Array Bool → Act → World → Prop) (a : Act) (i : Nat) (o : Oper) : Prop :=
  ∀ (listed : Array Bool) (a' : Act) (w' : World), Fr S a a' → Vals tab listed a' → J listed a' w' → listed.getD i true = false → (∀ j, (o.after.any fun e => e.on == j && Region.binds .any e) = true → listed.getD j true = true) →
    ∀ K : Act → World → Prop, (∀ a'' w'', Fr S a a'' → Vals tab (listed.setIfInBounds i true) a'' → J (listed.setIfInBounds i true) a'' w'' → K a'' w'') → wpOp P ops Q i K a' w'
def StepsOk (P : Program) (ops : Array Oper) (Q : Exit → Act → World → Prop) (S : List Nat) (tab : List (Nat × Nat × Value)) (J : Array Bool → Act → World → Prop) (a : Act) : List Oper → Nat → Prop
  | [], _ => True
  | o :: l, k => StepOk P ops Q S tab J a k o ∧ StepsOk P ops Q S tab J a l (k + 1)
theorem StepsOk.at {S : List Nat} {tab : List (Nat × Nat × Value)} {J : Array Bool → Act → World → Prop} {a : Act} : ∀ (l : List Oper) (k : Nat), StepsOk P ops Q S tab J a l k → ∀ i o, l[i]? = some o → StepOk P ops Q S tab J a (k + i) o
  | [], _, _, i, o, h => by simp at h
  | x :: l, k, h, 0, o, ho => by
    obtain rfl : x = o := by simpa using ho
    exact h.1
  | x :: l, k, h, i + 1, o, ho => by
    have := StepsOk.at l (k + 1) h.2 i o (by simpa using ho)
    rw [show k + (i + 1) = k + 1 + i by omega]
    exact this
theorem getD_both' {listed : Array Bool} {j : Nat} (h : listed.getD j false = true) : listed.getD j true = true := by
  by_cases hj : j < listed.size
  · simp [hj] at h ⊢; exact h
  · simp [hj] at h
end
/-- What is owed of the slots behind the operation i: the table's row i. -/
theorem Vals.done {tab : List (Nat × Nat × Value)} {listed : Array Bool} {a : Act} {i d : Nat} {v : Value} (h : Vals tab listed a) (hr : tab.map Prod.fst = List.range tab.length) (hn : (tab.map fun p => p.2.1).Nodup) (hi : tab[i]? = some (i, d, v)) (hd : d < a.tmps.size) :
    Vals tab (listed.setIfInBounds i true) (a.put (some d) v) := by
  have hil : i < tab.length := (List.getElem?_eq_some_iff.1 hi).1
  have hie : tab[i] = (i, d, v) := (List.getElem?_eq_some_iff.1 hi).2
  have h1 : ∀ (j : Nat) (hj : j < tab.length), (tab[j]).1 = j := fun j hj => by
    have := congrArg (fun l => l[j]?) hr
    simp [hj] at this
    exact this
  intro p hp hl
  obtain ⟨j, hj, rfl⟩ := List.mem_iff_getElem.1 hp
  by_cases e : j = i
  · subst e
    rw [hie, slot_put_same hd]
  · have hs : (tab[j]).2.1 ≠ d := fun q => by
      have hj' : j < (tab.map fun p => p.2.1).length := by simpa using hj
      have hi' : i < (tab.map fun p => p.2.1).length := by simpa using hil
      have hpw := List.pairwise_iff_getElem.1 hn
      rcases Nat.lt_or_gt_of_ne e with hlt | hlt
      · exact hpw j i hj' hi' hlt (by simp [hie, q])
      · exact hpw i j hi' hj' hlt (by simp [hie, q])
    rw [slot_put_other hs]
    exact h _ hp (by rw [getD_set_other _ (by rw [h1 j hj]; exact e)] at hl; exact hl)
theorem Vals.get {tab : List (Nat × Nat × Value)} {listed : Array Bool} {a : Act} (h : Vals tab listed a) (k : Nat) {i s : Nat} {v : Value} (hk : tab[k]? = some (i, s, v)) (hl : listed.getD i true = true) : slotOf a s = v :=
  h (i, s, v) (List.mem_of_getElem? hk) hl
end Go.Proofs.YtgemjjpmoejgdaaGreat
/- Slices whose rows lie in blocks of a kind; an append of such a slice; steps of a drawn region over whole blocks. -/
namespace Go.Proofs.YtgemjjpmoejgdaaGreat
open Go.RowKit
set_option maxRecDepth 100000
set_option linter.unusedVariables false

/-- A slice whose rows lie in a block of a kind. -/
structure KRows (K : Nat → Prop) (w : World) (k : Nat) (v : Value) (rows : List (List Value)) : Prop where
  at' : RowsAt w k v rows
  kind : ∀ a n c, v = .slice (some a) n c → rows ≠ [] → K a.block
  nil : ∀ n c, v = .slice none n c → c = 0
  cap : ∀ p n c, v = .slice p n c → n ≤ c
theorem KRows.form {K : Nat → Prop} {w : World} {k : Nat} {v : Value} {rows : List (List Value)} (h : KRows K w k v rows) :
    ∃ p c, v = .slice p rows.length c ∧ (p = none → c = 0 ∧ rows = []) := by
  obtain ⟨p, c, rfl, h1⟩ := h.at'
  refine ⟨p, c, rfl, fun e => ?_⟩
  subst e
  refine ⟨h.nil _ _ rfl, ?_⟩
  cases rows with
  | nil => rfl
  | cons r rs =>
    obtain ⟨g, off, e, _⟩ := h1 0 r rfl
    cases e
theorem KRows.one {K : Nat → Prop} {w : World} {k : Nat} {v : Value} {rows : List (List Value)} (h : KRows K w k v rows) : v.oneCell' = true := by
  obtain ⟨p, c, rfl, _⟩ := h.form
  rfl
theorem KRows.keep {K : Nat → Prop} {w w' : World} {k : Nat} {v : Value} {rows : List (List Value)} (h : KRows K w k v rows) (hb : ∀ b, K b → w'.heap[b]? = w.heap[b]?) : KRows K w' k v rows := by
  refine ⟨?_, h.kind, h.nil, h.cap⟩
  obtain ⟨p, c, rfl, h1⟩ := h.at'
  refine ⟨p, c, rfl, fun i r hi => ?_⟩
  obtain ⟨g, off, rfl, h2⟩ := h1 i r hi
  refine ⟨g, off, rfl, fun j u hj => ?_⟩
  have hk := h.kind ⟨g, off, none⟩ _ _ rfl (by intro e; rw [e] at hi; cases hi)
  rw [World.cell?_of_block (hb g hk)]
  exact h2 j u hj
theorem KRows.mono {K K' : Nat → Prop} {w : World} {k : Nat} {v : Value} {rows : List (List Value)} (h : KRows K w k v rows) (hk : ∀ b, K b → K' b) : KRows K' w k v rows :=
  ⟨h.at', fun a n c e hn => hk _ (h.kind a n c e hn), h.nil, h.cap⟩
/-- Blocks that are there. -/
theorem KRows.lt {K : Nat → Prop} {w : World} {k : Nat} {v : Value} {rows : List (List Value)} (h : KRows K w k v rows) (hr : ∀ r ∈ rows, r ≠ []) : KRows (fun b => K b ∧ b < w.heap.size) w k v rows := by
  refine ⟨h.at', fun a n c e hn => ⟨h.kind a n c e hn, ?_⟩, h.nil, h.cap⟩
  obtain ⟨p, c', rfl, h1⟩ := h.at'
  cases rows with
  | nil => exact absurd rfl hn
  | cons r rs =>
    obtain ⟨g, off, rfl, h2⟩ := h1 0 r rfl
    cases hrc : r with
    | nil => exact absurd hrc (hr r (List.mem_cons_self ..))
    | cons u us =>
      have := h2 0 u (by rw [hrc]; rfl)
      have hlt := cell_lt this
      cases e
      exact hlt
def KNodes (K : Nat → Prop) (w : World) (v : Value) (ns : List NodeR) : Prop := KRows K w 7 v (ns.map NodeR.cells)
def KTicks (K : Nat → Prop) (w : World) (v : Value) (ts : List TickR) : Prop := KRows K w 4 v (ts.map TickR.cells)
def KFree (K : Nat → Prop) (w : World) (v : Value) (xs : List Nat) : Prop := KRows K w 1 v (xs.map fun (x : Nat) => [Value.int .i64 (x : Int)])
structure KBoxes (K : Nat → Prop) (w : World) (v : Value) (bs : List (List TickR)) (us : List Value) : Prop where
  len : us.length = bs.length
  outer : KRows K w 1 v (us.map fun u => [u])
  box : ∀ (i : Nat) (u : Value) (b : List TickR), us[i]? = some u → bs[i]? = some b → KTicks K w u b
theorem KBoxes.keep {K : Nat → Prop} {w w' : World} {v : Value} {bs : List (List TickR)} {us : List Value} (h : KBoxes K w v bs us) (hb : ∀ b, K b → w'.heap[b]? = w.heap[b]?) : KBoxes K w' v bs us :=
  ⟨h.len, h.outer.keep hb, fun i u b hu hi => (h.box i u b hu hi).keep hb⟩
theorem KBoxes.mono {K K' : Nat → Prop} {w : World} {v : Value} {bs : List (List TickR)} {us : List Value} (h : KBoxes K w v bs us) (hk : ∀ b, K b → K' b) : KBoxes K' w v bs us :=
  ⟨h.len, h.outer.mono hk, fun i u b hu hi => (h.box i u b hu hi).mono hk⟩
/-- A slice without its first element. -/
theorem RowsAt.tail {w : World} {k g off n c c' : Nat} {r : List Value} {rs : List (List Value)} (h : RowsAt w k (.slice (some ⟨g, off, none⟩) n c) (r :: rs)) : RowsAt w k (.slice (some ⟨g, off + k, none⟩) (n - 1) c') rs := by
  obtain ⟨p, c0, e, h1⟩ := h
  injection e with e1 e2 e3
  subst e1 e2
  refine ⟨some ⟨g, off + k, none⟩, c', by rw [List.length_cons, Nat.add_sub_cancel], fun i r' hi => ?_⟩
  obtain ⟨g', off', e, h2⟩ := h1 (i + 1) r' hi
  injection e with e
  injection e with e1 e2 e3
  subst e1 e2
  refine ⟨g, off + k, rfl, fun j u hj => ?_⟩
  have := h2 j u hj
  rw [Nat.succ_mul] at this
  rwa [show off + k + i * k + j = off + (i * k + k) + j by omega]
theorem KRows.tail {K : Nat → Prop} {w : World} {k g off n c c' : Nat} {r : List Value} {rs : List (List Value)} (h : KRows K w k (.slice (some ⟨g, off, none⟩) n c) (r :: rs)) (ht : RowsAt w k (.slice (some ⟨g, off + k, none⟩) (n - 1) c') rs) (hc : n - 1 ≤ c') : KRows K w k (.slice (some ⟨g, off + k, none⟩) (n - 1) c') rs :=
  ⟨ht, fun a n' c'' e _ => (by cases e; exact h.kind ⟨g, off, none⟩ _ _ rfl (by simp)), fun n' c'' e => (by cases e), fun p n' c'' e => (by cases e; exact hc)⟩
theorem KRows.own {K : Nat → Prop} {w : World} {base k : Nat} {e : TypeId} {v : Value} {rows : List (List Value)} (h : w.ownsRow base e k v rows.length rows.flatten) (hk : ∀ r ∈ rows, r.length = k) (hK : ∀ b, base ≤ b → K b) : KRows K w k v rows := by
  refine ⟨RowsAt.own h hk, fun a n c e hn => ?_, fun n c e => ?_, fun p n c e => ?_⟩
  · rcases h.2 with ⟨e0, h0⟩ | ⟨g, cap, cur, e0, hb, _⟩
    · exact absurd (List.length_eq_zero_iff.1 h0) hn
    · rw [e0] at e
      cases e
      exact hK _ hb
  · rcases h.2 with ⟨e0, h0⟩ | ⟨g, cap, cur, e0, hb, _⟩
    · rw [e0] at e
      cases e
      rfl
    · rw [e0] at e
      cases e
  · rcases h.2 with ⟨e0, h0⟩ | ⟨g, cap, cur, e0, _, _, hcap, _⟩
    · rw [e0] at e
      cases e
      exact Nat.le_refl _
    · rw [e0] at e
      cases e
      exact hcap
/-- A slice without its first element, as Go's slicing gives it. -/
theorem KRows.next {K : Nat → Prop} {w : World} {k g off n c : Nat} {r : List Value} {rs : List (List Value)} (h : KRows K w k (.slice (some ⟨g, off, none⟩) n c) (r :: rs)) : KRows K w k (.slice (if c = 1 then some ⟨g, off, none⟩ else some ⟨g, off + k, none⟩) rs.length (c - 1)) rs := by
  have hc := h.cap _ _ _ rfl
  have hn : n = rs.length + 1 := by
    obtain ⟨p, c', e, _⟩ := h.at'
    injection e with _ e _
  subst hn
  by_cases h1 : c = 1
  · subst h1
    rw [if_pos rfl]
    have : rs = [] := List.length_eq_zero_iff.1 (by omega)
    subst this
    exact ⟨⟨_, _, rfl, fun i r hi => by cases hi⟩, fun a n c e hn => absurd rfl hn, fun n c e => (by cases e), fun p n c e => (by cases e; exact Nat.le_refl _)⟩
  · rw [if_neg h1]
    exact KRows.tail (c' := c - 1) h (RowsAt.tail h.at') (by omega)
theorem KTicks.next {K : Nat → Prop} {w : World} {g off n c : Nat} {t : TickR} {ts : List TickR} (h : KTicks K w (.slice (some ⟨g, off, none⟩) n c) (t :: ts)) : KTicks K w (.slice (if c = 1 then some ⟨g, off, none⟩ else some ⟨g, off + 4, none⟩) ts.length (c - 1)) ts := by
  have := KRows.next (r := t.cells) (rs := ts.map TickR.cells) h
  rw [List.length_map] at this
  exact this
/-- One more that is dropped. -/
theorem next_dead {α : Type} {p : α → Bool} {bs l : List α} {u : α} {k : Nat} (h : bs = bs.take k ++ u :: l) (hk : k ≤ bs.length) (hd : ∀ v ∈ bs.take k, p v = true) (hu : p u = true) : bs = bs.take (k + 1) ++ l ∧ k + 1 ≤ bs.length ∧ ∀ v ∈ bs.take (k + 1), p v = true := by
  have hl : k + 1 ≤ bs.length := by
    have := congrArg List.length h
    rw [List.length_append, List.length_take, List.length_cons] at this
    omega
  have hg : bs[k]'(by omega) = u := by
    have h1 : bs[k]? = some u := by
      rw [h, List.getElem?_append_right (by rw [List.length_take]; omega), List.length_take, show k - min k bs.length = 0 by omega]
      rfl
    exact (List.getElem?_eq_some_iff.1 h1).2
  have ht : bs.take (k + 1) = bs.take k ++ [u] := by rw [List.take_succ_eq_append_getElem (by omega), hg]
  refine ⟨?_, hl, fun v hv => ?_⟩
  · rw [ht, List.append_assoc]
    exact h
  · rw [ht] at hv
    rcases List.mem_append.1 hv with hv | hv
    · exact hd v hv
    · rw [List.mem_singleton.1 hv]
      exact hu

theorem KBoxes.put {K K' : Nat → Prop} {w w' : World} {v v' u : Value} {bs : List (List TickR)} {us : List Value} {s : Nat} {b : List TickR} (h : KBoxes K w v bs us) (hk : ∀ b, K b → w'.heap[b]? = w.heap[b]?) (hKK : ∀ b, K b → K' b) (ho : KRows K' w' 1 v' ((us.set s u).map fun u => [u])) (hu : KTicks K' w' u b) :
    KBoxes K' w' v' (bs.set s b) (us.set s u) := by
  refine ⟨by rw [List.length_set, List.length_set]; exact h.len, ho, fun i u' b' hi hb => ?_⟩
  by_cases e : i = s
  · subst e
    have h1 : i < us.length := by have := (List.getElem?_eq_some_iff.1 hi).1; rwa [List.length_set] at this
    have h2 : i < bs.length := by rw [← h.len]; exact h1
    rw [List.getElem?_set_self h1] at hi
    rw [List.getElem?_set_self h2] at hb
    cases hi
    cases hb
    exact hu
  · rw [List.getElem?_set_ne (Ne.symm e)] at hi hb
    exact ((h.box i u' b' hi hb).keep hk).mono hKK
theorem own_cap {w : World} {base k n n' c : Nat} {e : TypeId} {a : Option Addr} {xs : List Value} (h : w.ownsRow base e k (.slice a n' c) n xs) : c ≤ maxLen := by
  rcases h.2 with ⟨e0, h0⟩ | ⟨g, cap, cur, e0, _, _, _, hm, _⟩
  · cases e0
    exact Nat.zero_le _
  · cases e0
    exact hm
theorem flat_ones : ∀ us : List Value, (us.map fun u => [u]).flatten = us
  | [] => rfl
  | u :: us => by rw [List.map_cons, List.flatten_cons, flat_ones us]; rfl
/-- One cell of a row of one-cell elements is turned. -/
theorem ones_set {K : Nat → Prop} {w w' : World} {g n c s : Nat} {e : TypeId} {cur : Array Value} {us : List Value} {u : Value} (hc : w.heap[g]? = some (.cells cur e (0, 0))) (hn : n = us.length) (hcap : n ≤ c) (hcs : cur.size = c * 1) (ht : cur.toList.take (n * 1) = us) (hw : w'.heap[g]? = some (.cells (cur.setIfInBounds s u) e (0, 0))) (hm : c ≤ maxLen) (hK : K g) :
    KRows K w' 1 (.slice (some ⟨g, 0, none⟩) n c) ((us.set s u).map fun u => [u]) := by
  have hl : ((us.set s u).map fun u => [u]).length = n := by rw [List.length_map, List.length_set, hn]
  have h : w'.ownsRow g e 1 (.slice (some ⟨g, 0, none⟩) n c) ((us.set s u).map fun u => [u]).length ((us.set s u).map fun u => [u]).flatten := by
    rw [hl, flat_ones]
    refine ⟨by rw [List.length_set, hn, Nat.mul_one], .inr ⟨g, c, cur.setIfInBounds s u, rfl, Nat.le_refl _, hw, hcap, hm, by simpa using hcs, ?_⟩⟩
    have : (cur.setIfInBounds s u).toList = cur.toList.set s u := by simp
    rw [this, List.take_set, ht]
  refine ⟨RowsAt.own h (fun r hr => by obtain ⟨u', _, rfl⟩ := List.mem_map.1 hr; rfl), fun a n' c' e _ => (by cases e; exact hK), fun n' c' e => (by cases e), fun p n' c' e => (by cases e; exact hcap)⟩

section
variable {P : Program} {w : World}
/-- An append of any slice to one of the call's own. -/
theorem run_append_rows (base : Nat) (t ty e : TypeId) (i : TypeInfo) (z : Value) (size bytes : Nat) (ht : P.underlying t = some (.slice e)) (hi : P.info? e = some i) (hz : i.zero = some z)
    (hsize : i.size = size) (hby : i.bytes = bytes) (hzs : z.cells.size = size) (hsz : 0 < size)
    (v : Value) (n : Nat) (xs : List Value) (hown : w.ownsRow base e size v n xs) (x : Value) (K : Nat → Prop) (rows : List (List Value)) (hx : KRows K w size x rows) (hl : ∀ r ∈ rows, r.length = size) (h1 : ∀ r ∈ rows, ∀ u ∈ r, u.oneCell' = true)
    (h63 : n + rows.length ≤ maxLen) (hbytes : (n + rows.length) * bytes ≤ 140737488355328) (hbase : base ≤ w.heap.size) :
    ∃ v' w', (Builtin.append_ #[t, t] ty #[v, x]).run P w = .ok v' w' ∧ w'.ownsRow base e size v' (n + rows.length) (xs ++ rows.flatten) ∧ w.grownBy w' v.ownBlock := by
  obtain ⟨p, c, rfl, hp⟩ := hx.form
  cases p with
  | none =>
    obtain ⟨rfl, rfl⟩ := hp rfl
    refine ⟨v, w, run_append_owned_none w base t ty e i size ht hi v n xs hown, ?_, ⟨rfl, rfl, rfl, Nat.le_refl _, fun _ _ _ => rfl⟩⟩
    rw [List.length_nil, Nat.add_zero, List.flatten_nil, List.append_nil]
    exact hown
  | some a =>
    obtain ⟨g, off, rv⟩ := a
    have hflat : ∀ (j : Nat) (u : Value), rows.flatten[j]? = some u → w.cell? ((⟨g, off, rv⟩ : Addr).add j) = some u := by
      intro j u hj
      have hrv : rv = none := by
        obtain ⟨p, c', e, h2⟩ := hx.at'
        cases rows with
        | nil => cases hj
        | cons r rs =>
          obtain ⟨g', off', e', _⟩ := h2 0 r rfl
          rw [e'] at e
          cases e
          rfl
      subst hrv
      have := RowsAt.flat hx.at' hl hsz j u hj
      unfold Addr.add
      split
      · rename_i e; subst e; exact this
      · exact this
    obtain ⟨v', w', hr, h2, h3, _, h5⟩ := run_append_own_at (P := P) w base t ty e i z size bytes ht hi hz hsize hby hzs hsz v n xs hown ⟨g, off, rv⟩ rows.length c rows.flatten (flat_len _ hl) hflat
      (fun u hu => by obtain ⟨r, hr, hu⟩ := List.mem_flatten.1 hu; exact h1 r hr u hu) h63 hbytes hbase
    exact ⟨v', w', hr, h2, h3⟩
theorem wpList_append_rows {ops : Array Oper} {rest : List Oper} {o : Oper} {a : Act} {Q : Exit → Act → World → Prop} (hgd : o.guard = none) (s x : Operand) (t : TypeId)
    (ho : o.op = .call { callee := .builtin .append, args := #[s, x], argTypes := #[t, t] })
    (base : Nat) (e : TypeId) (i : TypeInfo) (z : Value) (size bytes : Nat) (ht : P.underlying t = some (.slice e)) (hi : P.info? e = some i) (hz : i.zero = some z)
    (hsize : i.size = size) (hby : i.bytes = bytes) (hzs : z.cells.size = size) (hsz : 0 < size)
    (v : Value) (n : Nat) (xs : List Value) (hs : a.eval s = v) (hown : w.ownsRow base e size v n xs) (xv : Value) (K : Nat → Prop) (rows : List (List Value)) (hxv : a.eval x = xv) (hx : KRows K w size xv rows) (hl : ∀ r ∈ rows, r.length = size) (h1 : ∀ r ∈ rows, ∀ u ∈ r, u.oneCell' = true)
    (h63 : n + rows.length ≤ maxLen) (hbytes : (n + rows.length) * bytes ≤ 140737488355328) (hbase : base ≤ w.heap.size)
    (h : ∀ v' w', w'.ownsRow base e size v' (n + rows.length) (xs ++ rows.flatten) → w.grownBy w' v.ownBlock → wpList P ops Q rest (a.put o.dst v') w') : wpList P ops Q (o :: rest) a w := by
  refine wpList_plain hgd fun K hK => ?_
  obtain ⟨v', w', hr, h2, h3⟩ := run_append_rows base t o.type e i z size bytes ht hi hz hsize hby hzs hsz v n xs hown xv _ rows hx hl h1 h63 hbytes hbase
  unfold Oper.wp execOp
  simp only [ho, resolve, invoke, builtin, Sem.run_bind, Sem.run_pure, Result.andThen_ok, List.map_toArray, List.map_cons, List.map_nil, hs, hxv, hr]
  exact hK _ _ (h v' w' h2 h3)
end

section
variable {P : Program} {ops : Array Oper} {Q : Exit → Act → World → Prop}
theorem step_append_rows {o : Oper} {a : Act} {K : Act → World → Prop} {E : Prop} {w : World} (hgd : o.guard = none) (s x : Operand) (t : TypeId)
    (ho : o.op = .call { callee := .builtin .append, args := #[s, x], argTypes := #[t, t] })
    (base : Nat) (e : TypeId) (ti : TypeInfo) (z : Value) (size bytes : Nat) (ht : P.underlying t = some (.slice e)) (hi : P.info? e = some ti) (hz : ti.zero = some z)
    (hsize : ti.size = size) (hby : ti.bytes = bytes) (hzs : z.cells.size = size) (hsz : 0 < size)
    (v : Value) (n : Nat) (xs : List Value) (hs : a.eval s = v) (hown : w.ownsRow base e size v n xs) (xv : Value) (Kd : Nat → Prop) (rows : List (List Value)) (hxv : a.eval x = xv) (hx : KRows Kd w size xv rows) (hl : ∀ r ∈ rows, r.length = size) (h1 : ∀ r ∈ rows, ∀ u ∈ r, u.oneCell' = true)
    (h63 : n + rows.length ≤ maxLen) (hbytes : (n + rows.length) * bytes ≤ 140737488355328) (hbase : base ≤ w.heap.size)
    (h : ∀ v' w', w'.ownsRow base e size v' (n + rows.length) (xs ++ rows.flatten) → w.grownBy w' v.ownBlock → K (a.put o.dst v') w') : if Region.wanted o (yielded ops a.tmps) = true then Oper.wp P o a w K Q else E := by
  have hw : Region.wanted o (yielded ops a.tmps) = true := by simp [Region.wanted, hgd]
  rw [if_pos hw]
  obtain ⟨v', w', hr, h2, h3⟩ := run_append_rows base t o.type e ti z size bytes ht hi hz hsize hby hzs hsz v n xs hown xv _ rows hx hl h1 h63 hbytes hbase
  unfold Oper.wp execOp
  simp only [ho, resolve, invoke, builtin, Sem.run_bind, Sem.run_pure, Result.andThen_ok, List.map_toArray, List.map_cons, List.map_nil, hs, hxv, hr]
  exact h v' w' h2 h3
theorem quiet_load_row {C : World → Prop} {a : Act} {o : Oper} {K : Act → Prop} (ty : TypeId) (x : Operand) (ho : o.op = .load ty x) (g : Nat) (hx : a.eval x = .pointer (some ⟨g, 0, none⟩)) (t : TypeId) (cs : Array Value) (fr : Nat × Nat) (d : TypeDesc) (hg : ∀ w, C w → w.heap[g]? = some (.cells cs t fr))
    (hu : P.underlying ty = some d) (hd : (match d with | .struct _ | .array _ _ => true | _ => false) = true) (hi : (P.info? ty).map (·.size) = some cs.size) (hk : K (a.put o.dst (.agg cs))) : o.quiet P a C K :=
  ⟨_, fun w hw => by
    have e : (execOp a.eval o).run P w = .ok (.value (.agg cs)) w := by
      unfold execOp
      simp only [ho, hx, Instr.loadAt, Instr.sureAddr, Sem.run_bind, Sem.run_pure, Result.andThen_ok, run_loadVar_row w g t ty cs fr d (hg w hw) hu hd hi]
    unfold Oper.quietAt; rw [e]; exact ⟨rfl, rfl⟩, hk⟩
theorem st_load_row {i : Nat} {dst : Option Tmp} {x : Operand} {lt ty : TypeId} {pos : String} {after : Array Edge} {K : Act → World → Prop} {a : Act} {w : World} (ho : ops[i]? = some ⟨dst, .load lt x, ty, pos, after, none⟩)
    (g : Nat) (hx : a.eval x = .pointer (some ⟨g, 0, none⟩)) (t : TypeId) (cs : Array Value) (fr : Nat × Nat) (d : TypeDesc) (hg : w.heap[g]? = some (.cells cs t fr))
    (hu : P.underlying lt = some d) (hd : (match d with | .struct _ | .array _ _ => true | _ => false) = true) (hi : (P.info? lt).map (·.size) = some cs.size) (h : K (a.put dst (.agg cs)) w) : wpOp P ops Q i K a w :=
  st_gen ho (wp_load_row lt x rfl g hx t cs fr d hg hu hd hi h)
theorem st_store_row {i : Nat} {x y : Operand} {lt ty : TypeId} {pos : String} {after : Array Edge} {K : Act → World → Prop} {a : Act} {w : World} (ho : ops[i]? = some ⟨none, .store lt x y, ty, pos, after, none⟩)
    (g : Nat) (cells : Array Value) (hx : a.eval x = .pointer (some ⟨g, 0, none⟩)) (hy : a.eval y = .agg cells)
    (t : TypeId) (old : Array Value) (hg : w.heap[g]? = some (.cells old t (0, 0))) (hi : (P.info? lt).map (·.size) = some cells.size)
    (hold : old.size = cells.size) (h1 : cells.all (·.oneCell') = true) (h : K a (w.setRow g cells)) : wpOp P ops Q i K a w :=
  st_gen ho (wp_store_row lt x y rfl g cells hx hy t old hg hi hold h1 h)
end
end Go.Proofs.YtgemjjpmoejgdaaGreat
