/- Push, as steps. -/
import Derived.Test.YtgemjjpmoejgdaaGreatJoinj
namespace Go.Proofs.YtgemjjpmoejgdaaGreat
open Go.RowKit
set_option maxRecDepth 100000
set_option linter.unusedVariables false

theorem toU_bd (i : Int) : toU i < 18446744073709551616 := by unfold toU; omega
theorem toU_wrap (i : Int) : IntKind.u64.wrap i = ((toU i : Nat) : Int) := by rw [IntKind.wrap_u64]; unfold toU; omega
section
variable {ρ : Type} {R : ρ → Arg → St → St × Option (K ρ)} {E : G} {t : Nat}
theorem enters_push1 : EntersF 220 := enters_of Tryz.func220 (by kernel_rfl) rfl
theorem enters_push11 : EntersF 221 := enters_of Tryz.func221 (by kernel_rfl) rfl
theorem enters_push111 : EntersF 222 := enters_of Tryz.func222 (by kernel_rfl) rfl
def pushCv (bs bi bt : Nat) : Value := .func (.func 222) #[] #[.pointer (some ⟨bs, 0, none⟩), .pointer (some ⟨bi, 0, none⟩), .pointer (some ⟨bt, 0, none⟩)]
def pushBv (bs bh bi bt : Nat) : Value := .func (.func 221) #[] #[.pointer (some ⟨bs, 0, none⟩), .pointer (some ⟨bh, 0, none⟩), .pointer (some ⟨bi, 0, none⟩), .pointer (some ⟨bt, 0, none⟩)]
def pushAv (bs bi bt : Nat) : Value := .func (.func 220) #[] #[.pointer (some ⟨bs, 0, none⟩), .pointer (some ⟨bi, 0, none⟩), .pointer (some ⟨bt, 0, none⟩)]

set_option maxHeartbeats 1000000 in
theorem store_zero {i : Int} {v : Nat} {g : FuncId} {rc cap : Array Value} {L : Lab} {w : World} {S : St} {o : Option (K ρ)} (hg : Good E L S w) :
    Calls Tryz.prog 110 #[.pointer (some ⟨E.a, 0, none⟩), .int .i64 i, .int .u64 v, .func (.func g) rc cap] w (Post E.cf R E t 0 L w (S, o)) := by
  go_enter Tryz.func110, Tryz.ntmps110
  go_wp2
  go_ret
  have hb : Below w.heap.size w ((((w.alloc (.cells #[.pointer (some ⟨E.a, 0, none⟩)] 57)).alloc (.cells #[.int .i64 i] 3)).alloc (.cells #[.int .u64 v] 92)).alloc (.cells #[.func (.func g) rc cap] 43)) :=
    (((((Below.refl _ _).alloc (Nat.le_refl _) _).alloc (by simp) _).alloc (by simp; omega) _).alloc (by simp; omega) _)
  exact post_zero (below_did hb t L) (hg.below hb)

set_option maxHeartbeats 1000000 in
theorem pushC_con {n : Nat} {st : Stk} {f : FuncId} {i : Int} {vk : Value} {c : C ρ} {L : Lab} {w : World} {bs bi bt : Nat}
    (hs : StkAt w bs E f st.head) (hi : w.cell? ⟨bi, 0, none⟩ = some (.int .i64 i)) (ht : w.cell? ⟨bt, 0, none⟩ = some vk) (ls : L bs = 0) (li : L bi = 0) (lt : L bt = 0)
    (hk : ConSim E.cf R E t isU n L w vk c)
    (ih : ∀ L' w' S, Ext t L w L' w' → Good E L' S w' → Calls Tryz.prog 159 #[stkVal E f st.head, .int .i64 i, vk] w' (Post E.cf R E t n L' w' (S, some (pushK st i c)))) :
    ConSim E.cf R E t isB n L w (pushCv bs bi bt) (.pushC st i c) := by
  refine ⟨_, _, rfl, enters_push111, ?_⟩
  intro a L' w' S ha hx hg hbd
  cases a with
  | b ok =>
    obtain ⟨c0, c1, c2⟩ := hs.ext hx ls
    have q1 := hx.cell0 ht lt
    have q2 := hx.cell0 hi li
    show Calls _ _ #[_, _, _, _] _ _
    cases ok with
    | false =>
      have hi2 := ih L' w' S hx hg
      unfold stkVal at hi2
      have HI := Go.Lib.hid hi2
      show Calls _ _ _ _ (Post E.cf R E t n L' w' (S, some (pushK st i c)))
      clear hi2 ih hk hx hg hbd ha
      generalize pushK st i c = kk at *
      go_enter Tryz.func222, Tryz.ntmps222
      go_wp2_with fail
      refine HI.out.mono ?_
      rintro e w2 ⟨v2, L2, rfl, hd2, hg2, hc2⟩
      go_wp2
      go_ret
      exact ⟨v2, L2, rfl, hd2, hg2, hc2⟩
    | true =>
      obtain ⟨g, cap, rfl, hgf, hk⟩ := hk
      have hku := ConSim.unit hk
      have hgf' : ∀ (args : Array Value) (w : World), (callFunc g args).run Tryz.prog w = .ok (.enter g args) w := hgf
      have hk1 := hku L' w' S hx hg hbd
      have HK := Go.Lib.hid hk1
      show Calls _ _ _ _ (Post E.cf R E t n L' w' (app E.cf R c .u S))
      clear hk1 hku hk ih hx hg hbd ha
      generalize app E.cf R c .u S = rr at *
      go_enter Tryz.func222, Tryz.ntmps222
      go_wp2_with (go_at_fn g; refine HK.out.mono ?_; rintro e w2 ⟨v2, L2, rfl, hd2, hg2, hc2⟩)
      go_ret
      exact ⟨v2, L2, rfl, hd2, hg2, hc2⟩
  | _ => exact absurd ha (by simp [isB])

set_option maxHeartbeats 2000000 in
theorem pushB_con (hR : RMono R) {m : Nat} {st : Stk} {f : FuncId} {head : Nat} {i : Int} {c : C ρ} {L : Lab} {w : World} {bs bh bi bt : Nat} (h64 : head < 18446744073709551616)
    (hs : StkAt w bs E f st.head) (hh : w.cell? ⟨bh, 0, none⟩ = some (.int .u64 head)) (hi : w.cell? ⟨bi, 0, none⟩ = some (.int .i64 i)) (ls : L bs = 0) (lh : L bh = 0) (li : L bi = 0)
    (hC : ∀ n, m = n + 1 → ∀ L' w', Ext t L w L' w' → ConSim E.cf R E t isB n L' w' (pushCv bs bi bt) (.pushC st i c)) :
    ConSim E.cf R E t isU m L w (pushBv bs bh bi bt) (.pushB st i head c) := by
  refine ⟨_, _, rfl, enters_push11, ?_⟩
  intro a L' w' S ha hx hg hbd
  cases a with
  | u =>
    obtain ⟨c0, c1, c2⟩ := hs.ext hx ls
    have q1 := hx.cell0 hh lh
    have q2 := hx.cell0 hi li
    show Calls _ _ #[_, _, _, _] _ _
    have hcas : ∀ W, Below w'.heap.size w' W → Calls Tryz.prog 104 #[.pointer (some ⟨E.a, 0, none⟩), .int .i64 st.head, .int .u64 head, .int .u64 (turned head i : Nat), pushCv bs bi bt] W (Post E.cf R E t m L' W (S, some (.cas st.head head (turned head i) (.pushC st i c)))) := by
      intro W hW
      cases m with
      | zero => exact cas_zero (hg.below hW)
      | succ n => exact cas_any hR (turned_lt _ _) (hg.below hW) (hC n rfl L' W (hx.trans (below_ext hW t L')))
    have HCAS := Go.Lib.hid hcas
    show Calls _ _ _ _ (Post E.cf R E t m L' w' (S, some (.cas st.head head (turned head i) (.pushC st i c))))
    have HT := Go.Lib.hid (stack_turned head h64 i)
    clear hcas hC hx hg hbd ha hs hh hi
    generalize turned head i = tw at *
    unfold pushCv at HCAS
    have c0' : ∀ d os, (Sort.grow (redrawn w' d) os).cell? ⟨bs, 0, none⟩ = some (.pointer (some ⟨E.a, 0, none⟩)) := fun d os => cell_regrown c0 d os
    have c1' : ∀ d os, (Sort.grow (redrawn w' d) os).cell? ⟨bs, 1, none⟩ = some (.int .i64 st.head) := fun d os => cell_regrown c1 d os
    have q1' : ∀ d os, (Sort.grow (redrawn w' d) os).cell? ⟨bh, 0, none⟩ = some (.int .u64 head) := fun d os => cell_regrown q1 d os
    have q2' : ∀ d os, (Sort.grow (redrawn w' d) os).cell? ⟨bi, 0, none⟩ = some (.int .i64 i) := fun d os => cell_regrown q2 d os
    go_enter Tryz.func221, Tryz.ntmps221
    go_wp2
    refine wp_region_below_tail 9 (by kernel_rfl) (by kernel_rfl) ?_
    simp only [List.take_succ_cons, List.take_zero, List.drop_succ_cons, List.drop_zero]
    repeat (go_big_quiet_step (first
      | (go_at_call 105; rename_i p; exact Calls.regrown_of (HT.out _))))
    refine wpQuiet_nil ?_
    intro W1 hw'
    obtain ⟨p, rfl⟩ := hw'
    have hb := below_regrown w' p.d p.os
    clear c0' c1' q1' q2'
    generalize Sort.grow (redrawn w' p.d) p.os = W1 at *
    go_wp2_with fail
    refine (HCAS.out W1 hb).mono ?_
    rintro e w2 ⟨v2, L2, rfl, hd2, hg2, hc2⟩
    go_wp2
    go_ret
    exact ⟨v2, L2, rfl, (below_did hb t L').trans hd2, hg2, hc2⟩
  | _ => exact absurd ha (by simp [isU])

set_option maxHeartbeats 2000000 in
theorem pushA_con (hR : RMono R) {m : Nat} {st : Stk} {f : FuncId} {i : Int} {vk : Value} {c : C ρ} {L : Lab} {w : World} {bs bi bt : Nat} (hso : StkOk E f (st.link E.cf))
    (hs : StkAt w bs E f st.head) (hi : w.cell? ⟨bi, 0, none⟩ = some (.int .i64 i)) (ht : w.cell? ⟨bt, 0, none⟩ = some vk) (ls : L bs = 0) (li : L bi = 0) (lt : L bt = 0) (hk : ConSim E.cf R E t isU m L w vk c)
    (ih : ∀ k, k < m → ∀ L' w' S, Ext t L w L' w' → Good E L' S w' → Calls Tryz.prog 159 #[stkVal E f st.head, .int .i64 i, vk] w' (Post E.cf R E t k L' w' (S, some (pushK st i c)))) :
    ConSim E.cf R E t isW m L w (pushAv bs bi bt) (.pushA st i c) := by
  refine ⟨_, _, rfl, enters_push1, ?_⟩
  intro a L' w' S ha hx hg hbd
  cases a with
  | w head =>
    have h64 : head < 18446744073709551616 := ha
    have hs' := hs.ext hx ls
    have q1 := hx.cell0 ht lt
    have q4 := hx.cell0 hi li
    have ls' := (hx.lab bs (cell_lt hs.c0)).trans ls
    have li' := (hx.lab bi (cell_lt hi)).trans li
    have lt' := (hx.lab bt (cell_lt ht)).trans lt
    have hib : -1 ≤ headIdx head ∧ headIdx head ≤ 4294967294 := by unfold headIdx part; omega
    have hfield : ∀ (a b : Int) (w : World), (Instr.field 154 (.agg #[.int .i64 a, .int .i64 b]) 1).run Tryz.prog w = .ok (.int .i64 b) w := fun _ _ _ => by kernel_rfl
    have HO : Hid (∀ w, Calls Tryz.prog 102 #[.int .u64 head] w fun e w' => e = .returned (.agg #[.int .i64 (headCnt head : Nat), .int .i64 (headIdx head)]) ∧ Below w.heap.size w w') := fun w => of_HeadOf head w h64
    have hal : Below w'.heap.size w' (w'.alloc (.cells #[.int .u64 head] 92)) := (Below.refl _ _).alloc (Nat.le_refl _) _
    have e0 : (w'.alloc (.cells #[.int .u64 head] 92)).cell? ⟨w'.heap.size, 0, none⟩ = some (.int .u64 head) := by go_simp
    have lbh : L' w'.heap.size = 0 := hg.new _ (Nat.le_refl _)
    have hlen := hso.en
    have hlen' : ∀ (args : Array Value) (w : World), (callFunc f args).run Tryz.prog w = .ok (.enter f args) w := hlen
    show Calls _ _ #[_, _, _, _] _ _
    show Calls _ _ _ _ (Post E.cf R E t m L' w' (S, some (.store (st.link E.cf i) (toU (headIdx head + 1)) (.pushB st i head c))))
    have HLN : Hid (∀ W, Below w'.heap.size w' W → Calls Tryz.prog f #[.pointer (some ⟨E.p, 0, none⟩), .int .i64 i] W (Qt (.int .i64 (st.link E.cf i)) W)) := fun W hW => hso.ln i W (hg.below hW).pl
    have HST : Hid (∀ (W : World), Below w'.heap.size w' W → W.cell? ⟨w'.heap.size, 0, none⟩ = some (.int .u64 head) →
        Calls Tryz.prog 110 #[.pointer (some ⟨E.a, 0, none⟩), .int .i64 (st.link E.cf i), .int .u64 (toU (headIdx head + 1) : Nat), pushBv bs w'.heap.size bi bt] W (Post E.cf R E t m L' W (S, some (.store (st.link E.cf i) (toU (headIdx head + 1)) (.pushB st i head c))))) := by
      intro W hW hh
      have hxW := hx.trans (below_ext hW t L')
      cases m with
      | zero => exact store_zero (hg.below hW)
      | succ n =>
        refine store_any hR (toU_bd _) (hg.below hW) (pushB_con hR h64 (hs'.below hW) hh (below_cell hW q4) ls' lbh li' ?_)
        intro n2 hn L2 w2 hx2
        subst hn
        have hx3 := hxW.trans hx2
        refine pushC_con (hs'.below hW |>.ext hx2 ls') (hx2.cell0 (below_cell hW q4) li') (hx2.cell0 (below_cell hW q1) lt') ((hx2.lab bs (cell_lt (hs'.below hW).c0)).trans ls') ((hx2.lab bi (cell_lt (below_cell hW q4))).trans li') ((hx2.lab bt (cell_lt (below_cell hW q1))).trans lt') (ConSim.ext E.cf R E t (ConSim.down E.cf R E t (ConSim.down E.cf R E t hk)) hx3) ?_
        intro L3 w3 S3 hx4 hg3
        exact ih n2 (by omega) L3 w3 S3 (hx3.trans hx4) hg3
    obtain ⟨c0, c1, c2⟩ := hs'
    have hwi : IntKind.i64.wrap (headIdx head + 1) = headIdx head + 1 := IntWalk.i64_in _ (by omega)
    have hwu := toU_wrap (headIdx head + 1)
    have hb0 := hal
    clear hbd hk hx ih hs hal hib hso hlen ls' li' lt' lbh
    generalize st.link E.cf i = lkv at *
    generalize toU (headIdx head + 1) = tu at *
    generalize headIdx head = ix at *
    generalize headCnt head = cn at *
    unfold pushBv at HST
    replace c0 := below_cell hb0 c0
    replace c2 := below_cell hb0 c2
    replace q4 := below_cell hb0 q4
    have HB0 := Go.Lib.hid hb0
    clear hb0 q1 c1 hg
    go_enter Tryz.func220, Tryz.ntmps220
    go_wp2
    generalize (w'.alloc (.cells #[.int .u64 head] 92)) = w2 at *
    have c0' : ∀ d os, (Sort.grow (redrawn w2 d) os).cell? ⟨bs, 0, none⟩ = some (.pointer (some ⟨E.a, 0, none⟩)) := fun d os => cell_regrown c0 d os
    have c2' : ∀ d os, (Sort.grow (redrawn w2 d) os).cell? ⟨bs, 2, none⟩ = some (.func (.func f) #[.pointer (some ⟨E.p, 0, none⟩)] #[]) := fun d os => cell_regrown c2 d os
    have q4' : ∀ d os, (Sort.grow (redrawn w2 d) os).cell? ⟨bi, 0, none⟩ = some (.int .i64 i) := fun d os => cell_regrown q4 d os
    have e0' : ∀ d os, (Sort.grow (redrawn w2 d) os).cell? ⟨w'.heap.size, 0, none⟩ = some (.int .u64 head) := fun d os => cell_regrown e0 d os
    refine wp_region_below_tail 12 (by kernel_rfl) (by kernel_rfl) ?_
    simp only [List.take_succ_cons, List.take_zero, List.drop_succ_cons, List.drop_zero]
    repeat (go_big_quiet_step (first
      | (go_at_call 102; exact Calls.regrown_of (HO.out _))
      | (go_at_fn f; rename_i p; exact Calls.regrown_of ((HLN.out _ (HB0.out.trans ((below_regrown w2 p.d p.os).mono HB0.out.size))).mono (fun _ _ h => h.below)))))
    refine wpQuiet_nil ?_
    intro W1 hw'
    obtain ⟨p, rfl⟩ := hw'
    have hb := below_regrown w2 p.d p.os
    have hb4 := HB0.out.trans (hb.mono HB0.out.size)
    have HL := Go.Lib.hid (HST.out _ hb4 (below_cell hb e0))
    have HB4 := Go.Lib.hid hb4
    clear c0' c2' q4' e0' hb hb4
    generalize Sort.grow (redrawn w2 p.d) p.os = W1 at *
    go_wp2_with fail
    refine HL.out.mono ?_
    rintro e w9 ⟨v2, L2, rfl, hd2, hg2, hc2⟩
    go_wp2
    go_ret
    exact ⟨v2, L2, rfl, (below_did HB4.out t L').trans hd2, hg2, hc2⟩
  | _ => exact absurd ha (by simp [isW])
set_option maxHeartbeats 2000000 in
/-- Push is code that lays an index ahead of a stack's first. -/
theorem push_any (hR : RMono R) {st : Stk} {f : FuncId} {i : Int} {vk : Value} {c : C ρ} (hso : StkOk E f (st.link E.cf)) : ∀ (m : Nat) (L : Lab) (w : World) (S : St), Good E L S w → ConSim E.cf R E t isU m L w vk c →
    Calls Tryz.prog 159 #[stkVal E f st.head, .int .i64 i, vk] w (Post E.cf R E t (m + 1) L w (S, some (pushK st i c))) := by
  intro m
  induction m using Nat.strongRecOn with
  | ind m ih =>
    intro L w S hg hk
    obtain ⟨g, cap, hv, _⟩ := id hk
    subst hv
    have hbW : Below w.heap.size w (((w.alloc (.cells #[.pointer (some ⟨E.a, 0, none⟩), .int .i64 st.head, .func (.func f) #[.pointer (some ⟨E.p, 0, none⟩)] #[]] 60)).alloc (.cells #[.int .i64 i] 3)).alloc (.cells #[.func (.func g) #[] cap] 43)) :=
      (((Below.refl _ w).alloc (Nat.le_refl _) _).alloc (by simp) _).alloc (by simp; omega) _
    have f0 : (((w.alloc (.cells #[.pointer (some ⟨E.a, 0, none⟩), .int .i64 st.head, .func (.func f) #[.pointer (some ⟨E.p, 0, none⟩)] #[]] 60)).alloc (.cells #[.int .i64 i] 3)).alloc (.cells #[.func (.func g) #[] cap] 43)).cell? ⟨w.heap.size, 0, none⟩ = some (.pointer (some ⟨E.a, 0, none⟩)) := by go_simp
    have f1 : (((w.alloc (.cells #[.pointer (some ⟨E.a, 0, none⟩), .int .i64 st.head, .func (.func f) #[.pointer (some ⟨E.p, 0, none⟩)] #[]] 60)).alloc (.cells #[.int .i64 i] 3)).alloc (.cells #[.func (.func g) #[] cap] 43)).cell? ⟨w.heap.size, 1, none⟩ = some (.int .i64 st.head) := by go_simp
    have f2 : (((w.alloc (.cells #[.pointer (some ⟨E.a, 0, none⟩), .int .i64 st.head, .func (.func f) #[.pointer (some ⟨E.p, 0, none⟩)] #[]] 60)).alloc (.cells #[.int .i64 i] 3)).alloc (.cells #[.func (.func g) #[] cap] 43)).cell? ⟨w.heap.size, 2, none⟩ = some (.func (.func f) #[.pointer (some ⟨E.p, 0, none⟩)] #[]) := by go_simp
    have f3 : (((w.alloc (.cells #[.pointer (some ⟨E.a, 0, none⟩), .int .i64 st.head, .func (.func f) #[.pointer (some ⟨E.p, 0, none⟩)] #[]] 60)).alloc (.cells #[.int .i64 i] 3)).alloc (.cells #[.func (.func g) #[] cap] 43)).cell? ⟨w.heap.size + 1, 0, none⟩ = some (.int .i64 i) := by go_simp
    have f4 : (((w.alloc (.cells #[.pointer (some ⟨E.a, 0, none⟩), .int .i64 st.head, .func (.func f) #[.pointer (some ⟨E.p, 0, none⟩)] #[]] 60)).alloc (.cells #[.int .i64 i] 3)).alloc (.cells #[.func (.func g) #[] cap] 43)).cell? ⟨w.heap.size + 1 + 1, 0, none⟩ = some (.func (.func g) #[] cap) := by go_simp
    have m0 : L w.heap.size = 0 := hg.new _ (Nat.le_refl _)
    have m1 : L (w.heap.size + 1) = 0 := hg.new _ (by omega)
    have m2 : L (w.heap.size + 1 + 1) = 0 := hg.new _ (by omega)
    have hld : Calls Tryz.prog 91 #[.pointer (some ⟨E.a, 0, none⟩), .int .i64 st.head, pushAv w.heap.size (w.heap.size + 1) (w.heap.size + 1 + 1)] (((w.alloc (.cells #[.pointer (some ⟨E.a, 0, none⟩), .int .i64 st.head, .func (.func f) #[.pointer (some ⟨E.p, 0, none⟩)] #[]] 60)).alloc (.cells #[.int .i64 i] 3)).alloc (.cells #[.func (.func g) #[] cap] 43)) (Post E.cf R E t (m + 1) L (((w.alloc (.cells #[.pointer (some ⟨E.a, 0, none⟩), .int .i64 st.head, .func (.func f) #[.pointer (some ⟨E.p, 0, none⟩)] #[]] 60)).alloc (.cells #[.int .i64 i] 3)).alloc (.cells #[.func (.func g) #[] cap] 43)) (S, some (pushK st i c))) :=
      load_any hR (hg.below hbW) (pushA_con hR hso ⟨f0, f1, f2⟩ f3 f4 m0 m1 m2 (ConSim.ext E.cf R E t hk (below_ext hbW t L)) (fun k hkm L' w' S' hx hg' =>
        (ih k hkm L' w' S' hg' (ConSim.ext E.cf R E t (hk.le (Nat.le_of_lt hkm)) ((below_ext hbW t L).trans hx))).mono fun e w2 hp => Post.down E.cf R E t hp))
    have HL := Go.Lib.hid hld
    have HB := Go.Lib.hid hbW
    clear ih hk hg hld hbW hso
    unfold stkVal
    unfold pushAv at HL
    generalize pushK st i c = kk at *
    go_enter Tryz.func159, Tryz.ntmps159
    go_wp2_with fail
    refine HL.out.mono ?_
    rintro e w2 ⟨v2, L2, rfl, hd2, hg2, hc2⟩
    go_wp2
    go_ret
    exact ⟨v2, L2, rfl, (below_did HB.out t L).trans hd2, hg2, hc2⟩
end
end Go.Proofs.YtgemjjpmoejgdaaGreat
/- A shard's box, as steps: its head is turned. -/
namespace Go.Proofs.YtgemjjpmoejgdaaGreat
open Go.RowKit
set_option maxRecDepth 100000
set_option linter.unusedVariables false

/-- A box whose first cell is hd. -/
def boxCells (E : G) (f : FuncId) (hd : Int) : Array Value := #[.pointer (some ⟨E.a, 0, none⟩), .int .i64 hd, .func (.func f) #[.pointer (some ⟨E.p, 0, none⟩)] #[], .func (.func 113) #[.pointer (some ⟨E.k, 0, none⟩)] #[], .pointer (some ⟨E.a, 0, none⟩), .int .i64 2, .func (.func f) #[.pointer (some ⟨E.p, 0, none⟩)] #[]]
section
variable {ρ : Type} {R : ρ → Arg → St → St × Option (K ρ)} {E : G} {t : Nat}
set_option maxHeartbeats 2000000 in
theorem turn_gen {n : Nat} {f : FuncId} {hd : Int} {read : Nat} {first : Int} {c : C ρ} {L : Lab} {w : World} {S : St} (h64 : read < 18446744073709551616)
    {g : FuncId} {cap : Array Value} (hcas : ∀ W, Below w.heap.size w W → Calls Tryz.prog 104 #[.pointer (some ⟨E.a, 0, none⟩), .int .i64 hd, .int .u64 read, .int .u64 (turned read first : Nat), .func (.func g) #[] cap] W (Post E.cf R E t n L W (S, some (.cas hd read (turned read first) c)))) :
    Calls Tryz.prog 203 #[.agg (boxCells E f hd), .int .u64 read, .int .i64 first, .func (.func g) #[] cap] w (Post E.cf R E t n L w (S, some (.cas hd read (turned read first) c))) := by
  have hc : headCnt read < 4294967296 := by unfold headCnt part; exact Nat.mod_lt _ (by decide)
  have HO : Hid (∀ w, Calls Tryz.prog 102 #[.int .u64 read] w fun e w' => e = .returned (.agg #[.int .i64 (headCnt read : Nat), .int .i64 (headIdx read)]) ∧ Below w.heap.size w w') := fun w => of_HeadOf read w h64
  have HW : Hid (∀ w, Calls Tryz.prog 192 #[.agg #[.int .i64 ((headCnt read + 1) % 4294967296 : Nat), .int .i64 first]] w fun e w' => e = .returned (.tuple #[.int .u64 (turned read first : Nat), .int .i64 (headPacked (((headCnt read + 1) % 4294967296 : Nat) : Int) first).2]) ∧ Below w.heap.size w w') := fun w => word_HeadAny _ first w (by omega)
  have HCAS := Go.Lib.hid hcas
  clear hcas
  generalize (headPacked (((headCnt read + 1) % 4294967296 : Nat) : Int) first).2 = e2 at *
  generalize turned read first = tw at *
  generalize headIdx read = ix at *
  generalize headCnt read = cn at *
  have hw1 : IntKind.i64.wrap ((cn : Int) + 1) = (cn : Int) + 1 := IntWalk.i64_in _ (by omega)
  have hand : bits BinOp.and IntKind.i64 ((cn : Int) + 1) 4294967295 = (((cn + 1) % 4294967296 : Nat) : Int) := by have := and_low32_i64 (cn + 1) (by omega); rwa [Int.natCast_add] at this
  have hfield : ∀ (a b : Int) (w : World), (Instr.field 154 (.agg #[.int .i64 a, .int .i64 b]) 0).run Tryz.prog w = .ok (.int .i64 a) w := fun _ _ _ => by kernel_rfl
  have hal : Below w.heap.size w (w.alloc (.cells (boxCells E f hd) 68)) := (Below.refl _ _).alloc (Nat.le_refl _) _
  have c0 : (w.alloc (.cells (boxCells E f hd) 68)).cell? ⟨w.heap.size, 0, none⟩ = some (.pointer (some ⟨E.a, 0, none⟩)) := by unfold boxCells; go_simp
  have c1 : (w.alloc (.cells (boxCells E f hd) 68)).cell? ⟨w.heap.size, 1, none⟩ = some (.int .i64 hd) := by unfold boxCells; go_simp
  unfold boxCells at *
  go_enter Tryz.func203, Tryz.ntmps203
  go_wp2_with fail
  refine (HO.out _).mono ?_
  rintro e w1 ⟨rfl, hb1⟩
  have hb1' := hal.trans (hb1.mono hal.size)
  replace c0 := below_cell hb1 c0
  replace c1 := below_cell hb1 c1
  clear hb1 hal
  go_wp2_with fail
  refine (HW.out _).mono ?_
  rintro e w2 ⟨rfl, hb2⟩
  replace c0 := below_cell hb2 c0
  replace c1 := below_cell hb2 c1
  have HB := Go.Lib.hid (hb1'.trans (hb2.mono hb1'.size))
  clear hb2 hb1'
  go_wp2_with fail
  refine (HCAS.out _ HB.out).mono ?_
  rintro e w3 ⟨v2, L2, rfl, hd2, hg2, hc2⟩
  go_wp2
  go_ret
  exact ⟨v2, L2, rfl, (below_did HB.out t L).trans hd2, hg2, hc2⟩
theorem turn_any (hR : RMono R) {n : Nat} {f : FuncId} {hd : Int} {read : Nat} {first : Int} {vk : Value} {c : C ρ} {L : Lab} {w : World} {S : St} (h64 : read < 18446744073709551616)
    (hg : Good E L S w) (hk : ConSim E.cf R E t isB n L w vk c) :
    Calls Tryz.prog 203 #[.agg (boxCells E f hd), .int .u64 read, .int .i64 first, vk] w (Post E.cf R E t (n + 1) L w (S, some (.cas hd read (turned read first) c))) := by
  obtain ⟨g, cap, rfl, hgf, _⟩ := id hk
  exact turn_gen h64 fun W hW => cas_any hR (turned_lt _ _) (hg.below hW) (ConSim.ext E.cf R E t hk (below_ext hW t L))
theorem turn_zero {f : FuncId} {hd : Int} {read : Nat} {first : Int} {g : FuncId} {cap : Array Value} {c : C ρ} {L : Lab} {w : World} {S : St} (h64 : read < 18446744073709551616) (hg : Good E L S w) :
    Calls Tryz.prog 203 #[.agg (boxCells E f hd), .int .u64 read, .int .i64 first, .func (.func g) #[] cap] w (Post E.cf R E t 0 L w (S, some (.cas hd read (turned read first) c))) :=
  turn_gen h64 fun W hW => cas_zero (hg.below hW)
end

/-- A box in memory. -/
structure BoxAt (w : World) (b : Nat) (E : G) (f : FuncId) (hd : Int) : Prop where
  c0 : w.cell? ⟨b, 0, none⟩ = some (.pointer (some ⟨E.a, 0, none⟩))
  c1 : w.cell? ⟨b, 1, none⟩ = some (.int .i64 hd)
  c2 : w.cell? ⟨b, 2, none⟩ = some (.func (.func f) #[.pointer (some ⟨E.p, 0, none⟩)] #[])
  c3 : w.cell? ⟨b, 3, none⟩ = some (.func (.func 113) #[.pointer (some ⟨E.k, 0, none⟩)] #[])
  c4 : w.cell? ⟨b, 4, none⟩ = some (.pointer (some ⟨E.a, 0, none⟩))
  c5 : w.cell? ⟨b, 5, none⟩ = some (.int .i64 2)
  c6 : w.cell? ⟨b, 6, none⟩ = some (.func (.func f) #[.pointer (some ⟨E.p, 0, none⟩)] #[])
theorem BoxAt.ext {t : Nat} {L L' : Lab} {w w' : World} {b : Nat} {E : G} {f : FuncId} {hd : Int} (h : BoxAt w b E f hd) (hx : Ext t L w L' w') (l : L b = 0) : BoxAt w' b E f hd :=
  ⟨hx.cell0 h.c0 l, hx.cell0 h.c1 l, hx.cell0 h.c2 l, hx.cell0 h.c3 l, hx.cell0 h.c4 l, hx.cell0 h.c5 l, hx.cell0 h.c6 l⟩
theorem BoxAt.below {w w' : World} {b : Nat} {E : G} {f : FuncId} {hd : Int} (h : BoxAt w b E f hd) (hb : Below w.heap.size w w') : BoxAt w' b E f hd :=
  ⟨below_cell hb h.c0, below_cell hb h.c1, below_cell hb h.c2, below_cell hb h.c3, below_cell hb h.c4, below_cell hb h.c5, below_cell hb h.c6⟩
section
variable {ρ : Type} {R0 : ρ → Arg → St → St × Option (K (PR ρ))} {E : G} {t : Nat}
theorem enters_lay1 : EntersF 202 := enters_of Tryz.func202 (by kernel_rfl) rfl
theorem enters_lay11 : EntersF 204 := enters_of Tryz.func204 (by kernel_rfl) rfl
set_option maxHeartbeats 1000000 in
theorem layC_con {n : Nat} {s tk : Int} {va vk : Value} {k : PR ρ} {L : Lab} {w : World} {ba bt : Nat}
    (h0 : w.cell? ⟨ba, 0, none⟩ = some va) (h1 : w.cell? ⟨bt, 0, none⟩ = some vk) (l0 : L ba = 0) (l1 : L bt = 0)
    (hag : ConSim E.cf (prApp E.cf R0) E t isU n L w va (.ret (.again s tk k))) (hk : ConSim E.cf (prApp E.cf R0) E t isU n L w vk (.ret k)) :
    ConSim E.cf (prApp E.cf R0) E t isB n L w (.func (.func 204) #[] #[.pointer (some ⟨ba, 0, none⟩), .pointer (some ⟨bt, 0, none⟩)]) (.ret (.layC s tk k)) := by
  refine ⟨_, _, rfl, enters_lay11, ?_⟩
  intro a L' w' S ha hx hg hbd
  cases a with
  | b ok =>
    have q0 := hx.cell0 h0 l0
    have q1 := hx.cell0 h1 l1
    show Calls _ _ #[_, _, _] _ _
    cases ok with
    | false =>
      obtain ⟨g, cap, rfl, hgf, hc⟩ := hag
      have hku := ConSim.unit hc
      have hgf' : ∀ (args : Array Value) (w : World), (callFunc g args).run Tryz.prog w = .ok (.enter g args) w := hgf
      have hk1 := hku L' w' S hx hg hbd
      have HK := Go.Lib.hid hk1
      show Calls _ _ _ _ (Post E.cf (prApp E.cf R0) E t n L' w' (app E.cf (prApp E.cf R0) (.ret (.again s tk k)) .u S))
      clear hk1 hku hk hc hx hg hbd ha
      generalize app E.cf (prApp E.cf R0) (.ret (.again s tk k)) .u S = rr at *
      go_enter Tryz.func204, Tryz.ntmps204
      go_wp2_with (go_at_fn g; refine HK.out.mono ?_; rintro e w2 ⟨v2, L2, rfl, hd2, hg2, hc2⟩)
      go_ret
      exact ⟨v2, L2, rfl, hd2, hg2, hc2⟩
    | true =>
      obtain ⟨g, cap, rfl, hgf, hc⟩ := hk
      have hku := ConSim.unit hc
      have hgf' : ∀ (args : Array Value) (w : World), (callFunc g args).run Tryz.prog w = .ok (.enter g args) w := hgf
      have hk1 := hku L' w' S hx hg hbd
      have HK := Go.Lib.hid hk1
      show Calls _ _ _ _ (Post E.cf (prApp E.cf R0) E t n L' w' (app E.cf (prApp E.cf R0) (.ret k) .u S))
      clear hk1 hku hag hc hx hg hbd ha
      generalize app E.cf (prApp E.cf R0) (.ret k) .u S = rr at *
      go_enter Tryz.func204, Tryz.ntmps204
      go_wp2_with (go_at_fn g; refine HK.out.mono ?_; rintro e w2 ⟨v2, L2, rfl, hd2, hg2, hc2⟩)
      go_ret
      exact ⟨v2, L2, rfl, hd2, hg2, hc2⟩
  | _ => exact absurd ha (by simp [isB])
set_option maxHeartbeats 2000000 in
theorem layB_con (hR : RMono (prApp E.cf R0)) {m : Nat} {f : FuncId} {s tk : Int} {head : Nat} {k : PR ρ} {L : Lab} {w : World} {bb bh bi ba bt : Nat} (h64 : head < 18446744073709551616)
    (hb : BoxAt w bb E f (E.cf.inbox s)) (hh : w.cell? ⟨bh, 0, none⟩ = some (.int .u64 head)) (hi : w.cell? ⟨bi, 0, none⟩ = some (.int .i64 tk)) (lb : L bb = 0) (lh : L bh = 0) (li : L bi = 0)
    (hC : ∀ n, m = n + 1 → ∀ L' w', Ext t L w L' w' → ConSim E.cf (prApp E.cf R0) E t isB n L' w' (.func (.func 204) #[] #[.pointer (some ⟨ba, 0, none⟩), .pointer (some ⟨bt, 0, none⟩)]) (.ret (.layC s tk k))) :
    ConSim E.cf (prApp E.cf R0) E t isU m L w (.func (.func 202) #[] #[.pointer (some ⟨bb, 0, none⟩), .pointer (some ⟨bh, 0, none⟩), .pointer (some ⟨bi, 0, none⟩), .pointer (some ⟨ba, 0, none⟩), .pointer (some ⟨bt, 0, none⟩)]) (.ret (.layB s tk head k)) := by
  refine ⟨_, _, rfl, enters_lay1, ?_⟩
  intro a L' w' S ha hx hg hbd
  cases a with
  | u =>
    obtain ⟨c0, c1, c2, c3, c4, c5, c6⟩ := hb.ext hx lb
    have q1 := hx.cell0 hh lh
    have q2 := hx.cell0 hi li
    show Calls _ _ #[_, _, _, _, _] _ _
    have hturn : Calls Tryz.prog 203 #[.agg (boxCells E f (E.cf.inbox s)), .int .u64 head, .int .i64 tk, .func (.func 204) #[] #[.pointer (some ⟨ba, 0, none⟩), .pointer (some ⟨bt, 0, none⟩)]] w' (Post E.cf (prApp E.cf R0) E t m L' w' (S, some (.cas (E.cf.inbox s) head (turned head tk) (.ret (.layC s tk k))))) := by
      cases m with
      | zero => exact turn_zero h64 hg
      | succ n => exact turn_any hR h64 hg (hC n rfl L' w' hx)
    have HT := Go.Lib.hid hturn
    show Calls _ _ _ _ (Post E.cf (prApp E.cf R0) E t m L' w' (S, some (.cas (E.cf.inbox s) head (turned head tk) (.ret (.layC s tk k)))))
    clear hturn hC hx hg hbd ha hb hh hi
    generalize turned head tk = tw at *
    unfold boxCells at HT
    go_enter Tryz.func202, Tryz.ntmps202
    go_wp2_with fail
    refine HT.out.mono ?_
    rintro e w2 ⟨v2, L2, rfl, hd2, hg2, hc2⟩
    go_wp2
    go_ret
    exact ⟨v2, L2, rfl, hd2, hg2, hc2⟩
  | _ => exact absurd ha (by simp [isU])
end
end Go.Proofs.YtgemjjpmoejgdaaGreat
/- A ticket is laid into a shard's box. -/
namespace Go.Proofs.YtgemjjpmoejgdaaGreat
open Go.RowKit
set_option maxRecDepth 100000
set_option linter.unusedVariables false

section
variable {ρ : Type} {R0 : ρ → Arg → St → St × Option (K (PR ρ))} {E : G} {t : Nat}
set_option maxHeartbeats 4000000 in
theorem lay_any (hR : RMono (prApp E.cf R0)) {m : Nat} {f : FuncId} {s tk : Int} {head : Nat} {first : Int} {va vk : Value} {k : PR ρ} {L : Lab} {w : World} {S : St} (h64 : head < 18446744073709551616) (hfb : -1 ≤ first ∧ first ≤ 4294967294)
    (hso : StkOk E f E.cf.ticketLink) (hg : Good E L S w) (hag : ConSim E.cf (prApp E.cf R0) E t isU m L w va (.ret (.again s tk k))) (hk : ConSim E.cf (prApp E.cf R0) E t isU m L w vk (.ret k)) :
    Calls Tryz.prog 117 #[.agg (boxCells E f (E.cf.inbox s)), .int .i64 tk, .int .u64 head, .int .i64 first, va, vk] w (Post E.cf (prApp E.cf R0) E t m L w (S, some (layK E.cf s tk head first k))) := by
  obtain ⟨ga, ca, hva, _⟩ := id hag
  obtain ⟨gk, ck, hvk, _⟩ := id hk
  subst hva
  subst hvk
  have hb5 : Below w.heap.size w (((((w.alloc (.cells #[.pointer (some ⟨E.a, 0, none⟩), .int .i64 (E.cf.inbox s), .func (.func f) #[.pointer (some ⟨E.p, 0, none⟩)] #[], .func (.func 113) #[.pointer (some ⟨E.k, 0, none⟩)] #[], .pointer (some ⟨E.a, 0, none⟩), .int .i64 2, .func (.func f) #[.pointer (some ⟨E.p, 0, none⟩)] #[]] 68)).alloc (.cells #[.int .i64 tk] 3)).alloc (.cells #[.int .u64 head] 92)).alloc (.cells #[.func (.func ga) #[] ca] 43)).alloc (.cells #[.func (.func gk) #[] ck] 43)) := below_five _ _ _ _ _
  have a0 : (((((w.alloc (.cells #[.pointer (some ⟨E.a, 0, none⟩), .int .i64 (E.cf.inbox s), .func (.func f) #[.pointer (some ⟨E.p, 0, none⟩)] #[], .func (.func 113) #[.pointer (some ⟨E.k, 0, none⟩)] #[], .pointer (some ⟨E.a, 0, none⟩), .int .i64 2, .func (.func f) #[.pointer (some ⟨E.p, 0, none⟩)] #[]] 68)).alloc (.cells #[.int .i64 tk] 3)).alloc (.cells #[.int .u64 head] 92)).alloc (.cells #[.func (.func ga) #[] ca] 43)).alloc (.cells #[.func (.func gk) #[] ck] 43)).cell? ⟨w.heap.size, 0, none⟩ = some (.pointer (some ⟨E.a, 0, none⟩)) := by go_simp
  have a1 : (((((w.alloc (.cells #[.pointer (some ⟨E.a, 0, none⟩), .int .i64 (E.cf.inbox s), .func (.func f) #[.pointer (some ⟨E.p, 0, none⟩)] #[], .func (.func 113) #[.pointer (some ⟨E.k, 0, none⟩)] #[], .pointer (some ⟨E.a, 0, none⟩), .int .i64 2, .func (.func f) #[.pointer (some ⟨E.p, 0, none⟩)] #[]] 68)).alloc (.cells #[.int .i64 tk] 3)).alloc (.cells #[.int .u64 head] 92)).alloc (.cells #[.func (.func ga) #[] ca] 43)).alloc (.cells #[.func (.func gk) #[] ck] 43)).cell? ⟨w.heap.size, 1, none⟩ = some (.int .i64 (E.cf.inbox s)) := by go_simp
  have a2 : (((((w.alloc (.cells #[.pointer (some ⟨E.a, 0, none⟩), .int .i64 (E.cf.inbox s), .func (.func f) #[.pointer (some ⟨E.p, 0, none⟩)] #[], .func (.func 113) #[.pointer (some ⟨E.k, 0, none⟩)] #[], .pointer (some ⟨E.a, 0, none⟩), .int .i64 2, .func (.func f) #[.pointer (some ⟨E.p, 0, none⟩)] #[]] 68)).alloc (.cells #[.int .i64 tk] 3)).alloc (.cells #[.int .u64 head] 92)).alloc (.cells #[.func (.func ga) #[] ca] 43)).alloc (.cells #[.func (.func gk) #[] ck] 43)).cell? ⟨w.heap.size, 2, none⟩ = some (.func (.func f) #[.pointer (some ⟨E.p, 0, none⟩)] #[]) := by go_simp
  have a3 : (((((w.alloc (.cells #[.pointer (some ⟨E.a, 0, none⟩), .int .i64 (E.cf.inbox s), .func (.func f) #[.pointer (some ⟨E.p, 0, none⟩)] #[], .func (.func 113) #[.pointer (some ⟨E.k, 0, none⟩)] #[], .pointer (some ⟨E.a, 0, none⟩), .int .i64 2, .func (.func f) #[.pointer (some ⟨E.p, 0, none⟩)] #[]] 68)).alloc (.cells #[.int .i64 tk] 3)).alloc (.cells #[.int .u64 head] 92)).alloc (.cells #[.func (.func ga) #[] ca] 43)).alloc (.cells #[.func (.func gk) #[] ck] 43)).cell? ⟨w.heap.size, 3, none⟩ = some (.func (.func 113) #[.pointer (some ⟨E.k, 0, none⟩)] #[]) := by go_simp
  have a4 : (((((w.alloc (.cells #[.pointer (some ⟨E.a, 0, none⟩), .int .i64 (E.cf.inbox s), .func (.func f) #[.pointer (some ⟨E.p, 0, none⟩)] #[], .func (.func 113) #[.pointer (some ⟨E.k, 0, none⟩)] #[], .pointer (some ⟨E.a, 0, none⟩), .int .i64 2, .func (.func f) #[.pointer (some ⟨E.p, 0, none⟩)] #[]] 68)).alloc (.cells #[.int .i64 tk] 3)).alloc (.cells #[.int .u64 head] 92)).alloc (.cells #[.func (.func ga) #[] ca] 43)).alloc (.cells #[.func (.func gk) #[] ck] 43)).cell? ⟨w.heap.size, 4, none⟩ = some (.pointer (some ⟨E.a, 0, none⟩)) := by go_simp
  have a5 : (((((w.alloc (.cells #[.pointer (some ⟨E.a, 0, none⟩), .int .i64 (E.cf.inbox s), .func (.func f) #[.pointer (some ⟨E.p, 0, none⟩)] #[], .func (.func 113) #[.pointer (some ⟨E.k, 0, none⟩)] #[], .pointer (some ⟨E.a, 0, none⟩), .int .i64 2, .func (.func f) #[.pointer (some ⟨E.p, 0, none⟩)] #[]] 68)).alloc (.cells #[.int .i64 tk] 3)).alloc (.cells #[.int .u64 head] 92)).alloc (.cells #[.func (.func ga) #[] ca] 43)).alloc (.cells #[.func (.func gk) #[] ck] 43)).cell? ⟨w.heap.size, 5, none⟩ = some (.int .i64 2) := by go_simp
  have a6 : (((((w.alloc (.cells #[.pointer (some ⟨E.a, 0, none⟩), .int .i64 (E.cf.inbox s), .func (.func f) #[.pointer (some ⟨E.p, 0, none⟩)] #[], .func (.func 113) #[.pointer (some ⟨E.k, 0, none⟩)] #[], .pointer (some ⟨E.a, 0, none⟩), .int .i64 2, .func (.func f) #[.pointer (some ⟨E.p, 0, none⟩)] #[]] 68)).alloc (.cells #[.int .i64 tk] 3)).alloc (.cells #[.int .u64 head] 92)).alloc (.cells #[.func (.func ga) #[] ca] 43)).alloc (.cells #[.func (.func gk) #[] ck] 43)).cell? ⟨w.heap.size, 6, none⟩ = some (.func (.func f) #[.pointer (some ⟨E.p, 0, none⟩)] #[]) := by go_simp
  have f1 : (((((w.alloc (.cells #[.pointer (some ⟨E.a, 0, none⟩), .int .i64 (E.cf.inbox s), .func (.func f) #[.pointer (some ⟨E.p, 0, none⟩)] #[], .func (.func 113) #[.pointer (some ⟨E.k, 0, none⟩)] #[], .pointer (some ⟨E.a, 0, none⟩), .int .i64 2, .func (.func f) #[.pointer (some ⟨E.p, 0, none⟩)] #[]] 68)).alloc (.cells #[.int .i64 tk] 3)).alloc (.cells #[.int .u64 head] 92)).alloc (.cells #[.func (.func ga) #[] ca] 43)).alloc (.cells #[.func (.func gk) #[] ck] 43)).cell? ⟨w.heap.size + 1, 0, none⟩ = some (.int .i64 tk) := by go_simp
  have f2 : (((((w.alloc (.cells #[.pointer (some ⟨E.a, 0, none⟩), .int .i64 (E.cf.inbox s), .func (.func f) #[.pointer (some ⟨E.p, 0, none⟩)] #[], .func (.func 113) #[.pointer (some ⟨E.k, 0, none⟩)] #[], .pointer (some ⟨E.a, 0, none⟩), .int .i64 2, .func (.func f) #[.pointer (some ⟨E.p, 0, none⟩)] #[]] 68)).alloc (.cells #[.int .i64 tk] 3)).alloc (.cells #[.int .u64 head] 92)).alloc (.cells #[.func (.func ga) #[] ca] 43)).alloc (.cells #[.func (.func gk) #[] ck] 43)).cell? ⟨w.heap.size + 1 + 1, 0, none⟩ = some (.int .u64 head) := by go_simp
  have f3 : (((((w.alloc (.cells #[.pointer (some ⟨E.a, 0, none⟩), .int .i64 (E.cf.inbox s), .func (.func f) #[.pointer (some ⟨E.p, 0, none⟩)] #[], .func (.func 113) #[.pointer (some ⟨E.k, 0, none⟩)] #[], .pointer (some ⟨E.a, 0, none⟩), .int .i64 2, .func (.func f) #[.pointer (some ⟨E.p, 0, none⟩)] #[]] 68)).alloc (.cells #[.int .i64 tk] 3)).alloc (.cells #[.int .u64 head] 92)).alloc (.cells #[.func (.func ga) #[] ca] 43)).alloc (.cells #[.func (.func gk) #[] ck] 43)).cell? ⟨w.heap.size + 1 + 1 + 1, 0, none⟩ = some (.func (.func ga) #[] ca) := by go_simp
  have f4 : (((((w.alloc (.cells #[.pointer (some ⟨E.a, 0, none⟩), .int .i64 (E.cf.inbox s), .func (.func f) #[.pointer (some ⟨E.p, 0, none⟩)] #[], .func (.func 113) #[.pointer (some ⟨E.k, 0, none⟩)] #[], .pointer (some ⟨E.a, 0, none⟩), .int .i64 2, .func (.func f) #[.pointer (some ⟨E.p, 0, none⟩)] #[]] 68)).alloc (.cells #[.int .i64 tk] 3)).alloc (.cells #[.int .u64 head] 92)).alloc (.cells #[.func (.func ga) #[] ca] 43)).alloc (.cells #[.func (.func gk) #[] ck] 43)).cell? ⟨w.heap.size + 1 + 1 + 1 + 1, 0, none⟩ = some (.func (.func gk) #[] ck) := by go_simp
  have m0 : L (w.heap.size) = 0 := hg.new _ (Nat.le_refl _)
  have m1 : L (w.heap.size + 1) = 0 := hg.new _ (by omega)
  have m2 : L (w.heap.size + 1 + 1) = 0 := hg.new _ (by omega)
  have m3 : L (w.heap.size + 1 + 1 + 1) = 0 := hg.new _ (by omega)
  have m4 : L (w.heap.size + 1 + 1 + 1 + 1) = 0 := hg.new _ (by omega)
  have hbx : BoxAt (((((w.alloc (.cells #[.pointer (some ⟨E.a, 0, none⟩), .int .i64 (E.cf.inbox s), .func (.func f) #[.pointer (some ⟨E.p, 0, none⟩)] #[], .func (.func 113) #[.pointer (some ⟨E.k, 0, none⟩)] #[], .pointer (some ⟨E.a, 0, none⟩), .int .i64 2, .func (.func f) #[.pointer (some ⟨E.p, 0, none⟩)] #[]] 68)).alloc (.cells #[.int .i64 tk] 3)).alloc (.cells #[.int .u64 head] 92)).alloc (.cells #[.func (.func ga) #[] ca] 43)).alloc (.cells #[.func (.func gk) #[] ck] 43)) (w.heap.size) E f (E.cf.inbox s) := ⟨a0, a1, a2, a3, a4, a5, a6⟩
  have HST : Hid (∀ W, Below (((((w.alloc (.cells #[.pointer (some ⟨E.a, 0, none⟩), .int .i64 (E.cf.inbox s), .func (.func f) #[.pointer (some ⟨E.p, 0, none⟩)] #[], .func (.func 113) #[.pointer (some ⟨E.k, 0, none⟩)] #[], .pointer (some ⟨E.a, 0, none⟩), .int .i64 2, .func (.func f) #[.pointer (some ⟨E.p, 0, none⟩)] #[]] 68)).alloc (.cells #[.int .i64 tk] 3)).alloc (.cells #[.int .u64 head] 92)).alloc (.cells #[.func (.func ga) #[] ca] 43)).alloc (.cells #[.func (.func gk) #[] ck] 43)).heap.size (((((w.alloc (.cells #[.pointer (some ⟨E.a, 0, none⟩), .int .i64 (E.cf.inbox s), .func (.func f) #[.pointer (some ⟨E.p, 0, none⟩)] #[], .func (.func 113) #[.pointer (some ⟨E.k, 0, none⟩)] #[], .pointer (some ⟨E.a, 0, none⟩), .int .i64 2, .func (.func f) #[.pointer (some ⟨E.p, 0, none⟩)] #[]] 68)).alloc (.cells #[.int .i64 tk] 3)).alloc (.cells #[.int .u64 head] 92)).alloc (.cells #[.func (.func ga) #[] ca] 43)).alloc (.cells #[.func (.func gk) #[] ck] 43)) W →
      Calls Tryz.prog 110 #[.pointer (some ⟨E.a, 0, none⟩), .int .i64 (E.cf.ticketLink tk), .int .u64 (toU (first + 1) : Nat), .func (.func 202) #[] #[.pointer (some ⟨w.heap.size, 0, none⟩), .pointer (some ⟨w.heap.size + 1 + 1, 0, none⟩), .pointer (some ⟨w.heap.size + 1, 0, none⟩), .pointer (some ⟨w.heap.size + 1 + 1 + 1, 0, none⟩), .pointer (some ⟨w.heap.size + 1 + 1 + 1 + 1, 0, none⟩)]] W (Post E.cf (prApp E.cf R0) E t m L W (S, some (layK E.cf s tk head first k)))) := by
    intro W hW
    have hgW := (hg.below hb5).below hW
    have hxW := (below_ext hb5 t L).trans (below_ext hW t L)
    cases m with
    | zero => exact store_zero hgW
    | succ n =>
      refine store_any hR (toU_bd _) hgW (layB_con hR h64 (hbx.below hW) (below_cell hW f2) (below_cell hW f1) m0 m2 m1 ?_)
      intro n2 hn L2 w2 hx2
      subst hn
      have hx3 := hxW.trans hx2
      exact layC_con (hx2.cell0 (below_cell hW f3) m3) (hx2.cell0 (below_cell hW f4) m4) ((hx2.lab _ (cell_lt (below_cell hW f3))).trans m3) ((hx2.lab _ (cell_lt (below_cell hW f4))).trans m4)
        (ConSim.ext E.cf (prApp E.cf R0) E t (hag.le (by omega)) hx3) (ConSim.ext E.cf (prApp E.cf R0) E t (hk.le (by omega)) hx3)
  have HLN : Hid (∀ W, Below w.heap.size w W → Calls Tryz.prog f #[.pointer (some ⟨E.p, 0, none⟩), .int .i64 tk] W (Qt (.int .i64 (E.cf.ticketLink tk)) W)) := fun W hW => hso.ln tk W (hg.below hW).pl
  have hlen' : ∀ (args : Array Value) (w : World), (callFunc f args).run Tryz.prog w = .ok (.enter f args) w := hso.en
  have hwi : IntKind.i64.wrap (first + 1) = first + 1 := IntWalk.i64_in _ (by omega)
  have hwu := toU_wrap (first + 1)
  have HB5 := Go.Lib.hid hb5
  clear hag hk hg hso hb5 hbx m0 m1 m2 m3 m4 a1 a3 a4 a5 a6 f2 f3 f4
  unfold boxCells
  generalize layK E.cf s tk head first k = kk at *
  generalize toU (first + 1) = tu at *
  generalize E.cf.ticketLink tk = lkv at *
  go_enter Tryz.func117, Tryz.ntmps117
  go_wp2
  generalize (((((w.alloc (.cells #[.pointer (some ⟨E.a, 0, none⟩), .int .i64 (E.cf.inbox s), .func (.func f) #[.pointer (some ⟨E.p, 0, none⟩)] #[], .func (.func 113) #[.pointer (some ⟨E.k, 0, none⟩)] #[], .pointer (some ⟨E.a, 0, none⟩), .int .i64 2, .func (.func f) #[.pointer (some ⟨E.p, 0, none⟩)] #[]] 68)).alloc (.cells #[.int .i64 tk] 3)).alloc (.cells #[.int .u64 head] 92)).alloc (.cells #[.func (.func ga) #[] ca] 43)).alloc (.cells #[.func (.func gk) #[] ck] 43)) = w5 at *
  have a0' : ∀ d os, (Sort.grow (redrawn w5 d) os).cell? ⟨w.heap.size, 0, none⟩ = some (.pointer (some ⟨E.a, 0, none⟩)) := fun d os => cell_regrown a0 d os
  have a2' : ∀ d os, (Sort.grow (redrawn w5 d) os).cell? ⟨w.heap.size, 2, none⟩ = some (.func (.func f) #[.pointer (some ⟨E.p, 0, none⟩)] #[]) := fun d os => cell_regrown a2 d os
  have f1' : ∀ d os, (Sort.grow (redrawn w5 d) os).cell? ⟨w.heap.size + 1, 0, none⟩ = some (.int .i64 tk) := fun d os => cell_regrown f1 d os
  refine wp_region_below_tail 10 (by kernel_rfl) (by kernel_rfl) ?_
  simp only [List.take_succ_cons, List.take_zero, List.drop_succ_cons, List.drop_zero]
  repeat (go_big_quiet_step (first
    | (go_at_fn f; rename_i p; exact Calls.regrown_of ((HLN.out _ (HB5.out.trans ((below_regrown w5 p.d p.os).mono HB5.out.size))).mono (fun _ _ h => h.below)))))
  refine wpQuiet_nil ?_
  intro W1 hw'
  obtain ⟨p, rfl⟩ := hw'
  have hb := below_regrown w5 p.d p.os
  have HL := Go.Lib.hid (HST.out _ hb)
  have HB6 := Go.Lib.hid (HB5.out.trans (hb.mono HB5.out.size))
  clear a0' a2' f1' hb
  generalize Sort.grow (redrawn w5 p.d) p.os = W1 at *
  go_wp2_with fail
  refine HL.out.mono ?_
  rintro e w9 ⟨v2, L2, rfl, hd2, hg2, hc2⟩
  go_wp2
  go_ret
  exact ⟨v2, L2, rfl, (below_did HB6.out t L).trans hd2, hg2, hc2⟩
end
end Go.Proofs.YtgemjjpmoejgdaaGreat
/- A dead ticket that is first in a box is freed. -/
namespace Go.Proofs.YtgemjjpmoejgdaaGreat
open Go.RowKit
set_option maxRecDepth 100000
set_option linter.unusedVariables false

section
variable {ρ : Type} {R0 : ρ → Arg → St → St × Option (K (PR ρ))} {E : G} {t : Nat}
theorem enters_help1 : EntersF 205 := enters_of Tryz.func205 (by kernel_rfl) rfl
theorem enters_help11 : EntersF 206 := enters_of Tryz.func206 (by kernel_rfl) rfl
def helpBv (ba bb bf : Nat) : Value := .func (.func 206) #[] #[.pointer (some ⟨ba, 0, none⟩), .pointer (some ⟨bb, 0, none⟩), .pointer (some ⟨bf, 0, none⟩)]
def helpAv (bb bh ba bf : Nat) : Value := .func (.func 205) #[] #[.pointer (some ⟨bb, 0, none⟩), .pointer (some ⟨bh, 0, none⟩), .pointer (some ⟨ba, 0, none⟩), .pointer (some ⟨bf, 0, none⟩)]
set_option maxHeartbeats 2000000 in
theorem helpB_con (hR : RMono (prApp E.cf R0)) {n : Nat} {f : FuncId} {s tk first : Int} {va : Value} {k : PR ρ} {L : Lab} {w : World} {ba bb bf : Nat} (hso : StkOk E f E.cf.ticketLink)
    (h0 : w.cell? ⟨ba, 0, none⟩ = some va) (hb : BoxAt w bb E f (E.cf.inbox s)) (hf : w.cell? ⟨bf, 0, none⟩ = some (.int .i64 first)) (l0 : L ba = 0) (lb : L bb = 0) (lf : L bf = 0)
    (hag : ConSim E.cf (prApp E.cf R0) E t isU n L w va (.ret (.again s tk k))) :
    ConSim E.cf (prApp E.cf R0) E t isB n L w (helpBv ba bb bf) (.ret (.helpB s tk first k)) := by
  refine ⟨_, _, rfl, enters_help11, ?_⟩
  intro a L' w' S ha hx hg hbd
  cases a with
  | b ok =>
    have q0 := hx.cell0 h0 l0
    have q1 := hx.cell0 hf lf
    obtain ⟨c0, c1, c2, c3, c4, c5, c6⟩ := hb.ext hx lb
    show Calls _ _ #[_, _, _, _] _ _
    cases ok with
    | false =>
      obtain ⟨g, cap, rfl, hgf, hc⟩ := hag
      have hku := ConSim.unit hc
      have hgf' : ∀ (args : Array Value) (w : World), (callFunc g args).run Tryz.prog w = .ok (.enter g args) w := hgf
      have hk1 := hku L' w' S hx hg hbd
      have HK := Go.Lib.hid hk1
      show Calls _ _ _ _ (Post E.cf (prApp E.cf R0) E t n L' w' (app E.cf (prApp E.cf R0) (.ret (.again s tk k)) .u S))
      clear hk1 hku hc hx hg hbd ha hb hso
      generalize app E.cf (prApp E.cf R0) (.ret (.again s tk k)) .u S = rr at *
      go_enter Tryz.func206, Tryz.ntmps206
      go_wp2_with (go_at_fn g; refine HK.out.mono ?_; rintro e w2 ⟨v2, L2, rfl, hd2, hg2, hc2⟩)
      go_ret
      exact ⟨v2, L2, rfl, hd2, hg2, hc2⟩
    | true =>
      have hpu := (push_any hR (st := .tickets) (i := first) hso n L' w' S hg (ConSim.ext E.cf (prApp E.cf R0) E t hag hx)).mono fun e w2 hp => Post.down E.cf (prApp E.cf R0) E t hp
      have HP := Go.Lib.hid hpu
      show Calls _ _ _ _ (Post E.cf (prApp E.cf R0) E t n L' w' (S, some (pushK .tickets first (.ret (.again s tk k)))))
      obtain ⟨g, cap, rfl, _⟩ := hag
      clear hpu hx hg hbd ha hb hso
      unfold stkVal at HP
      generalize (pushK Stk.tickets first (C.ret (PR.again s tk k)) : K (PR ρ)) = kk at *
      go_enter Tryz.func206, Tryz.ntmps206
      go_wp2_with fail
      refine HP.out.mono ?_
      rintro e w2 ⟨v2, L2, rfl, hd2, hg2, hc2⟩
      go_wp2
      go_ret
      exact ⟨v2, L2, rfl, hd2, hg2, hc2⟩
  | _ => exact absurd ha (by simp [isB])
set_option maxHeartbeats 2000000 in
theorem helpA_con (hR : RMono (prApp E.cf R0)) {m : Nat} {f : FuncId} {s tk first : Int} {head : Nat} {k : PR ρ} {L : Lab} {w : World} {bb bh ba bf : Nat} (h64 : head < 18446744073709551616)
    (hb : BoxAt w bb E f (E.cf.inbox s)) (hh : w.cell? ⟨bh, 0, none⟩ = some (.int .u64 head)) (lb : L bb = 0) (lh : L bh = 0)
    (hC : ∀ n, m = n + 1 → ∀ L' w', Ext t L w L' w' → ConSim E.cf (prApp E.cf R0) E t isB n L' w' (helpBv ba bb bf) (.ret (.helpB s tk first k))) :
    ConSim E.cf (prApp E.cf R0) E t isW m L w (helpAv bb bh ba bf) (.ret (.helpA s tk head first k)) := by
  refine ⟨_, _, rfl, enters_help1, ?_⟩
  intro a L' w' S ha hx hg hbd
  cases a with
  | w next =>
    obtain ⟨c0, c1, c2, c3, c4, c5, c6⟩ := hb.ext hx lb
    have q1 := hx.cell0 hh lh
    show Calls _ _ #[_, _, _, _, _] _ _
    have hturn : Calls Tryz.prog 203 #[.agg (boxCells E f (E.cf.inbox s)), .int .u64 head, .int .i64 (wrap64 (toI next - 1)), helpBv ba bb bf] w' (Post E.cf (prApp E.cf R0) E t m L' w' (S, some (.cas (E.cf.inbox s) head (turned head (wrap64 (toI next - 1))) (.ret (.helpB s tk first k))))) := by
      cases m with
      | zero => exact turn_zero h64 hg
      | succ n => exact turn_any hR h64 hg (hC n rfl L' w' hx)
    have HT := Go.Lib.hid hturn
    have v1 : IntKind.i64.wrap (next : Int) = toI next := IntWalk.i64_left _
    have v2 : IntKind.i64.wrap (toI next - 1) = wrap64 (toI next - 1) := IntWalk.i64_left _
    show Calls _ _ _ _ (Post E.cf (prApp E.cf R0) E t m L' w' (S, some (.cas (E.cf.inbox s) head (turned head (wrap64 (toI next - 1))) (.ret (.helpB s tk first k)))))
    clear hturn hC hx hg hbd ha hb hh
    generalize turned head (wrap64 (toI next - 1)) = tw at *
    unfold boxCells helpBv at HT
    go_enter Tryz.func205, Tryz.ntmps205
    go_wp2_with fail
    refine HT.out.mono ?_
    rintro e w2 ⟨v2, L2, rfl, hd2, hg2, hc2⟩
    go_wp2
    go_ret
    exact ⟨v2, L2, rfl, hd2, hg2, hc2⟩
  | _ => exact absurd ha (by simp [isW])
set_option maxHeartbeats 4000000 in
theorem help_any (hR : RMono (prApp E.cf R0)) {m : Nat} {f : FuncId} {s tk : Int} {head : Nat} {first : Int} {va : Value} {k : PR ρ} {L : Lab} {w : World} {S : St} (h64 : head < 18446744073709551616)
    (hso : StkOk E f E.cf.ticketLink) (hg : Good E L S w) (hag : ConSim E.cf (prApp E.cf R0) E t isU m L w va (.ret (.again s tk k))) :
    Calls Tryz.prog 119 #[.agg (boxCells E f (E.cf.inbox s)), .int .u64 head, .int .i64 first, va] w (Post E.cf (prApp E.cf R0) E t m L w (S, some (.load (E.cf.ticketLink first) (.ret (.helpA s tk head first k))))) := by
  obtain ⟨ga, ca, hva, _⟩ := id hag
  subst hva
  have hb4 : Below w.heap.size w ((((w.alloc (.cells #[.pointer (some ⟨E.a, 0, none⟩), .int .i64 (E.cf.inbox s), .func (.func f) #[.pointer (some ⟨E.p, 0, none⟩)] #[], .func (.func 113) #[.pointer (some ⟨E.k, 0, none⟩)] #[], .pointer (some ⟨E.a, 0, none⟩), .int .i64 2, .func (.func f) #[.pointer (some ⟨E.p, 0, none⟩)] #[]] 68)).alloc (.cells #[.int .u64 head] 92)).alloc (.cells #[.int .i64 first] 3)).alloc (.cells #[.func (.func ga) #[] ca] 43)) := ((((Below.refl _ _).alloc (Nat.le_refl _) _).alloc (by simp) _).alloc (by simp; omega) _).alloc (by simp; omega) _
  have a0 : ((((w.alloc (.cells #[.pointer (some ⟨E.a, 0, none⟩), .int .i64 (E.cf.inbox s), .func (.func f) #[.pointer (some ⟨E.p, 0, none⟩)] #[], .func (.func 113) #[.pointer (some ⟨E.k, 0, none⟩)] #[], .pointer (some ⟨E.a, 0, none⟩), .int .i64 2, .func (.func f) #[.pointer (some ⟨E.p, 0, none⟩)] #[]] 68)).alloc (.cells #[.int .u64 head] 92)).alloc (.cells #[.int .i64 first] 3)).alloc (.cells #[.func (.func ga) #[] ca] 43)).cell? ⟨w.heap.size, 0, none⟩ = some (.pointer (some ⟨E.a, 0, none⟩)) := by go_simp
  have a1 : ((((w.alloc (.cells #[.pointer (some ⟨E.a, 0, none⟩), .int .i64 (E.cf.inbox s), .func (.func f) #[.pointer (some ⟨E.p, 0, none⟩)] #[], .func (.func 113) #[.pointer (some ⟨E.k, 0, none⟩)] #[], .pointer (some ⟨E.a, 0, none⟩), .int .i64 2, .func (.func f) #[.pointer (some ⟨E.p, 0, none⟩)] #[]] 68)).alloc (.cells #[.int .u64 head] 92)).alloc (.cells #[.int .i64 first] 3)).alloc (.cells #[.func (.func ga) #[] ca] 43)).cell? ⟨w.heap.size, 1, none⟩ = some (.int .i64 (E.cf.inbox s)) := by go_simp
  have a2 : ((((w.alloc (.cells #[.pointer (some ⟨E.a, 0, none⟩), .int .i64 (E.cf.inbox s), .func (.func f) #[.pointer (some ⟨E.p, 0, none⟩)] #[], .func (.func 113) #[.pointer (some ⟨E.k, 0, none⟩)] #[], .pointer (some ⟨E.a, 0, none⟩), .int .i64 2, .func (.func f) #[.pointer (some ⟨E.p, 0, none⟩)] #[]] 68)).alloc (.cells #[.int .u64 head] 92)).alloc (.cells #[.int .i64 first] 3)).alloc (.cells #[.func (.func ga) #[] ca] 43)).cell? ⟨w.heap.size, 2, none⟩ = some (.func (.func f) #[.pointer (some ⟨E.p, 0, none⟩)] #[]) := by go_simp
  have a3 : ((((w.alloc (.cells #[.pointer (some ⟨E.a, 0, none⟩), .int .i64 (E.cf.inbox s), .func (.func f) #[.pointer (some ⟨E.p, 0, none⟩)] #[], .func (.func 113) #[.pointer (some ⟨E.k, 0, none⟩)] #[], .pointer (some ⟨E.a, 0, none⟩), .int .i64 2, .func (.func f) #[.pointer (some ⟨E.p, 0, none⟩)] #[]] 68)).alloc (.cells #[.int .u64 head] 92)).alloc (.cells #[.int .i64 first] 3)).alloc (.cells #[.func (.func ga) #[] ca] 43)).cell? ⟨w.heap.size, 3, none⟩ = some (.func (.func 113) #[.pointer (some ⟨E.k, 0, none⟩)] #[]) := by go_simp
  have a4 : ((((w.alloc (.cells #[.pointer (some ⟨E.a, 0, none⟩), .int .i64 (E.cf.inbox s), .func (.func f) #[.pointer (some ⟨E.p, 0, none⟩)] #[], .func (.func 113) #[.pointer (some ⟨E.k, 0, none⟩)] #[], .pointer (some ⟨E.a, 0, none⟩), .int .i64 2, .func (.func f) #[.pointer (some ⟨E.p, 0, none⟩)] #[]] 68)).alloc (.cells #[.int .u64 head] 92)).alloc (.cells #[.int .i64 first] 3)).alloc (.cells #[.func (.func ga) #[] ca] 43)).cell? ⟨w.heap.size, 4, none⟩ = some (.pointer (some ⟨E.a, 0, none⟩)) := by go_simp
  have a5 : ((((w.alloc (.cells #[.pointer (some ⟨E.a, 0, none⟩), .int .i64 (E.cf.inbox s), .func (.func f) #[.pointer (some ⟨E.p, 0, none⟩)] #[], .func (.func 113) #[.pointer (some ⟨E.k, 0, none⟩)] #[], .pointer (some ⟨E.a, 0, none⟩), .int .i64 2, .func (.func f) #[.pointer (some ⟨E.p, 0, none⟩)] #[]] 68)).alloc (.cells #[.int .u64 head] 92)).alloc (.cells #[.int .i64 first] 3)).alloc (.cells #[.func (.func ga) #[] ca] 43)).cell? ⟨w.heap.size, 5, none⟩ = some (.int .i64 2) := by go_simp
  have a6 : ((((w.alloc (.cells #[.pointer (some ⟨E.a, 0, none⟩), .int .i64 (E.cf.inbox s), .func (.func f) #[.pointer (some ⟨E.p, 0, none⟩)] #[], .func (.func 113) #[.pointer (some ⟨E.k, 0, none⟩)] #[], .pointer (some ⟨E.a, 0, none⟩), .int .i64 2, .func (.func f) #[.pointer (some ⟨E.p, 0, none⟩)] #[]] 68)).alloc (.cells #[.int .u64 head] 92)).alloc (.cells #[.int .i64 first] 3)).alloc (.cells #[.func (.func ga) #[] ca] 43)).cell? ⟨w.heap.size, 6, none⟩ = some (.func (.func f) #[.pointer (some ⟨E.p, 0, none⟩)] #[]) := by go_simp
  have f1 : ((((w.alloc (.cells #[.pointer (some ⟨E.a, 0, none⟩), .int .i64 (E.cf.inbox s), .func (.func f) #[.pointer (some ⟨E.p, 0, none⟩)] #[], .func (.func 113) #[.pointer (some ⟨E.k, 0, none⟩)] #[], .pointer (some ⟨E.a, 0, none⟩), .int .i64 2, .func (.func f) #[.pointer (some ⟨E.p, 0, none⟩)] #[]] 68)).alloc (.cells #[.int .u64 head] 92)).alloc (.cells #[.int .i64 first] 3)).alloc (.cells #[.func (.func ga) #[] ca] 43)).cell? ⟨w.heap.size + 1, 0, none⟩ = some (.int .u64 head) := by go_simp
  have f2 : ((((w.alloc (.cells #[.pointer (some ⟨E.a, 0, none⟩), .int .i64 (E.cf.inbox s), .func (.func f) #[.pointer (some ⟨E.p, 0, none⟩)] #[], .func (.func 113) #[.pointer (some ⟨E.k, 0, none⟩)] #[], .pointer (some ⟨E.a, 0, none⟩), .int .i64 2, .func (.func f) #[.pointer (some ⟨E.p, 0, none⟩)] #[]] 68)).alloc (.cells #[.int .u64 head] 92)).alloc (.cells #[.int .i64 first] 3)).alloc (.cells #[.func (.func ga) #[] ca] 43)).cell? ⟨w.heap.size + 1 + 1, 0, none⟩ = some (.int .i64 first) := by go_simp
  have f3 : ((((w.alloc (.cells #[.pointer (some ⟨E.a, 0, none⟩), .int .i64 (E.cf.inbox s), .func (.func f) #[.pointer (some ⟨E.p, 0, none⟩)] #[], .func (.func 113) #[.pointer (some ⟨E.k, 0, none⟩)] #[], .pointer (some ⟨E.a, 0, none⟩), .int .i64 2, .func (.func f) #[.pointer (some ⟨E.p, 0, none⟩)] #[]] 68)).alloc (.cells #[.int .u64 head] 92)).alloc (.cells #[.int .i64 first] 3)).alloc (.cells #[.func (.func ga) #[] ca] 43)).cell? ⟨w.heap.size + 1 + 1 + 1, 0, none⟩ = some (.func (.func ga) #[] ca) := by go_simp
  have m0 : L (w.heap.size) = 0 := hg.new _ (Nat.le_refl _)
  have m1 : L (w.heap.size + 1) = 0 := hg.new _ (by omega)
  have m2 : L (w.heap.size + 1 + 1) = 0 := hg.new _ (by omega)
  have m3 : L (w.heap.size + 1 + 1 + 1) = 0 := hg.new _ (by omega)
  have hbx : BoxAt ((((w.alloc (.cells #[.pointer (some ⟨E.a, 0, none⟩), .int .i64 (E.cf.inbox s), .func (.func f) #[.pointer (some ⟨E.p, 0, none⟩)] #[], .func (.func 113) #[.pointer (some ⟨E.k, 0, none⟩)] #[], .pointer (some ⟨E.a, 0, none⟩), .int .i64 2, .func (.func f) #[.pointer (some ⟨E.p, 0, none⟩)] #[]] 68)).alloc (.cells #[.int .u64 head] 92)).alloc (.cells #[.int .i64 first] 3)).alloc (.cells #[.func (.func ga) #[] ca] 43)) (w.heap.size) E f (E.cf.inbox s) := ⟨a0, a1, a2, a3, a4, a5, a6⟩
  have HLD : Hid (∀ W, Below ((((w.alloc (.cells #[.pointer (some ⟨E.a, 0, none⟩), .int .i64 (E.cf.inbox s), .func (.func f) #[.pointer (some ⟨E.p, 0, none⟩)] #[], .func (.func 113) #[.pointer (some ⟨E.k, 0, none⟩)] #[], .pointer (some ⟨E.a, 0, none⟩), .int .i64 2, .func (.func f) #[.pointer (some ⟨E.p, 0, none⟩)] #[]] 68)).alloc (.cells #[.int .u64 head] 92)).alloc (.cells #[.int .i64 first] 3)).alloc (.cells #[.func (.func ga) #[] ca] 43)).heap.size ((((w.alloc (.cells #[.pointer (some ⟨E.a, 0, none⟩), .int .i64 (E.cf.inbox s), .func (.func f) #[.pointer (some ⟨E.p, 0, none⟩)] #[], .func (.func 113) #[.pointer (some ⟨E.k, 0, none⟩)] #[], .pointer (some ⟨E.a, 0, none⟩), .int .i64 2, .func (.func f) #[.pointer (some ⟨E.p, 0, none⟩)] #[]] 68)).alloc (.cells #[.int .u64 head] 92)).alloc (.cells #[.int .i64 first] 3)).alloc (.cells #[.func (.func ga) #[] ca] 43)) W →
      Calls Tryz.prog 91 #[.pointer (some ⟨E.a, 0, none⟩), .int .i64 (E.cf.ticketLink first), helpAv (w.heap.size) (w.heap.size + 1) (w.heap.size + 1 + 1 + 1) (w.heap.size + 1 + 1)] W (Post E.cf (prApp E.cf R0) E t m L W (S, some (.load (E.cf.ticketLink first) (.ret (.helpA s tk head first k)))))) := by
    intro W hW
    have hgW := (hg.below hb4).below hW
    have hxW := (below_ext hb4 t L).trans (below_ext hW t L)
    cases m with
    | zero => exact load_zero hgW
    | succ n =>
      refine load_any hR hgW (helpA_con hR h64 (hbx.below hW) (below_cell hW f1) m0 m1 ?_)
      intro n2 hn L2 w2 hx2
      subst hn
      have hx3 := hxW.trans hx2
      exact helpB_con hR hso (hx2.cell0 (below_cell hW f3) m3) ((hbx.below hW).ext hx2 m0) (hx2.cell0 (below_cell hW f2) m2) ((hx2.lab _ (cell_lt (below_cell hW f3))).trans m3) ((hx2.lab _ (cell_lt (hbx.below hW).c0)).trans m0) ((hx2.lab _ (cell_lt (below_cell hW f2))).trans m2)
        (ConSim.ext E.cf (prApp E.cf R0) E t (hag.le (by omega)) hx3)
  have HLN : Hid (∀ W, Below w.heap.size w W → Calls Tryz.prog f #[.pointer (some ⟨E.p, 0, none⟩), .int .i64 first] W (Qt (.int .i64 (E.cf.ticketLink first)) W)) := fun W hW => hso.ln first W (hg.below hW).pl
  have hlen' : ∀ (args : Array Value) (w : World), (callFunc f args).run Tryz.prog w = .ok (.enter f args) w := hso.en
  have HB4 := Go.Lib.hid hb4
  clear hag hg hso hb4 hbx m0 m1 m2 m3 a1 a3 a4 a5 a6 f1 f3
  unfold boxCells
  unfold helpAv at HLD
  generalize (K.load (E.cf.ticketLink first) (C.ret (PR.helpA s tk head first k)) : K (PR ρ)) = kk at *
  generalize E.cf.ticketLink first = lkv at *
  go_enter Tryz.func119, Tryz.ntmps119
  go_wp2
  generalize ((((w.alloc (.cells #[.pointer (some ⟨E.a, 0, none⟩), .int .i64 (E.cf.inbox s), .func (.func f) #[.pointer (some ⟨E.p, 0, none⟩)] #[], .func (.func 113) #[.pointer (some ⟨E.k, 0, none⟩)] #[], .pointer (some ⟨E.a, 0, none⟩), .int .i64 2, .func (.func f) #[.pointer (some ⟨E.p, 0, none⟩)] #[]] 68)).alloc (.cells #[.int .u64 head] 92)).alloc (.cells #[.int .i64 first] 3)).alloc (.cells #[.func (.func ga) #[] ca] 43)) = w5 at *
  have a0' : ∀ d os, (Sort.grow (redrawn w5 d) os).cell? ⟨w.heap.size, 0, none⟩ = some (.pointer (some ⟨E.a, 0, none⟩)) := fun d os => cell_regrown a0 d os
  have a2' : ∀ d os, (Sort.grow (redrawn w5 d) os).cell? ⟨w.heap.size, 2, none⟩ = some (.func (.func f) #[.pointer (some ⟨E.p, 0, none⟩)] #[]) := fun d os => cell_regrown a2 d os
  have f2' : ∀ d os, (Sort.grow (redrawn w5 d) os).cell? ⟨w.heap.size + 1 + 1, 0, none⟩ = some (.int .i64 first) := fun d os => cell_regrown f2 d os
  refine wp_region_below_tail 7 (by kernel_rfl) (by kernel_rfl) ?_
  simp only [List.take_succ_cons, List.take_zero, List.drop_succ_cons, List.drop_zero]
  repeat (go_big_quiet_step (first
    | (go_at_fn f; rename_i p; exact Calls.regrown_of ((HLN.out _ (HB4.out.trans ((below_regrown w5 p.d p.os).mono HB4.out.size))).mono (fun _ _ h => h.below)))))
  refine wpQuiet_nil ?_
  intro W1 hw'
  obtain ⟨p, rfl⟩ := hw'
  have hb := below_regrown w5 p.d p.os
  have HL := Go.Lib.hid (HLD.out _ hb)
  have HB6 := Go.Lib.hid (HB4.out.trans (hb.mono HB4.out.size))
  clear a0' a2' f2' hb
  generalize Sort.grow (redrawn w5 p.d) p.os = W1 at *
  go_wp2_with fail
  refine HL.out.mono ?_
  rintro e w9 ⟨v2, L2, rfl, hd2, hg2, hc2⟩
  go_wp2
  go_ret
  exact ⟨v2, L2, rfl, (below_did HB6.out t L).trans hd2, hg2, hc2⟩
end
end Go.Proofs.YtgemjjpmoejgdaaGreat
