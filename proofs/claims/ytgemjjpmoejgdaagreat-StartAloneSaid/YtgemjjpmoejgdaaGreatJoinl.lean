/- A ticket is put into a shard's box. -/
import Derived.Test.YtgemjjpmoejgdaaGreatJoink
namespace Go.Proofs.YtgemjjpmoejgdaaGreat
open Go.RowKit
set_option maxRecDepth 100000
set_option linter.unusedVariables false

section
variable {ρ : Type} {R0 : ρ → Arg → St → St × Option (K (PR ρ))} {E : G} {t : Nat}
theorem enters_put1 : EntersF 114 := enters_of Tryz.func114 (by kernel_rfl) rfl
theorem enters_put2 : EntersF 116 := enters_of Tryz.func116 (by kernel_rfl) rfl
theorem enters_put21 : EntersF 118 := enters_of Tryz.func118 (by kernel_rfl) rfl
theorem enters_head1 : EntersF 201 := enters_of Tryz.func201 (by kernel_rfl) rfl
theorem enters_deadM : EntersF 113 := enters_of Tryz.func113 (by kernel_rfl) rfl
set_option maxHeartbeats 2000000 in
theorem putB_con (hR : RMono (prApp E.cf R0)) {m : Nat} {f : FuncId} {s tk : Int} {head : Nat} {first : Int} {va vk : Value} {k : PR ρ} {L : Lab} {w : World} {bb bi bh bf ba bt : Nat} (h64 : head < 18446744073709551616) (hfb : -1 ≤ first ∧ first ≤ 4294967294)
    (hso : StkOk E f E.cf.ticketLink) (hb : BoxAt w bb E f (E.cf.inbox s)) (hi : w.cell? ⟨bi, 0, none⟩ = some (.int .i64 tk)) (hh : w.cell? ⟨bh, 0, none⟩ = some (.int .u64 head)) (hf : w.cell? ⟨bf, 0, none⟩ = some (.int .i64 first)) (h0 : w.cell? ⟨ba, 0, none⟩ = some va) (h1 : w.cell? ⟨bt, 0, none⟩ = some vk)
    (lb : L bb = 0) (li : L bi = 0) (lh : L bh = 0) (lf : L bf = 0) (l0 : L ba = 0) (l1 : L bt = 0)
    (hag : ConSim E.cf (prApp E.cf R0) E t isU m L w va (.ret (.again s tk k))) (hk : ConSim E.cf (prApp E.cf R0) E t isU m L w vk (.ret k)) :
    ConSim E.cf (prApp E.cf R0) E t isB m L w (.func (.func 118) #[] #[.pointer (some ⟨bb, 0, none⟩), .pointer (some ⟨bi, 0, none⟩), .pointer (some ⟨bh, 0, none⟩), .pointer (some ⟨bf, 0, none⟩), .pointer (some ⟨ba, 0, none⟩), .pointer (some ⟨bt, 0, none⟩)]) (.ret (.putB s tk head first k)) := by
  refine ⟨_, _, rfl, enters_put21, ?_⟩
  intro a L' w' S ha hx hg hbd
  cases a with
  | b dead =>
    obtain ⟨c0, c1, c2, c3, c4, c5, c6⟩ := hb.ext hx lb
    have q1 := hx.cell0 hi li
    have q2 := hx.cell0 hh lh
    have q3 := hx.cell0 hf lf
    have q4 := hx.cell0 h0 l0
    have q5 := hx.cell0 h1 l1
    have hag' := ConSim.ext E.cf (prApp E.cf R0) E t hag hx
    have hk' := ConSim.ext E.cf (prApp E.cf R0) E t hk hx
    obtain ⟨ga, ca, hva, _⟩ := id hag
    obtain ⟨gk, ck, hvk, _⟩ := id hk
    show Calls _ _ #[_, _, _, _, _, _, _] _ _
    cases dead with
    | false =>
      have hl := lay_any hR (first := first) h64 hfb hso hg hag' hk'
      unfold boxCells at hl
      rw [hva, hvk] at hl
      rw [hva] at q4
      rw [hvk] at q5
      have HL := Go.Lib.hid hl
      show Calls _ _ _ _ (Post E.cf (prApp E.cf R0) E t m L' w' (S, some (layK E.cf s tk head first k)))
      clear hl hag' hk' hag hk hx hg hbd ha hb hso hva hvk h0 h1
      generalize layK E.cf s tk head first k = kk at *
      go_enter Tryz.func118, Tryz.ntmps118
      go_wp2_with fail
      refine HL.out.mono ?_
      rintro e w2 ⟨v2, L2, rfl, hd2, hg2, hc2⟩
      go_wp2
      go_ret
      exact ⟨v2, L2, rfl, hd2, hg2, hc2⟩
    | true =>
      have hl := help_any hR (first := first) h64 hso hg hag'
      unfold boxCells at hl
      rw [hva] at hl
      rw [hva] at q4
      have HL := Go.Lib.hid hl
      show Calls _ _ _ _ (Post E.cf (prApp E.cf R0) E t m L' w' (S, some (.load (E.cf.ticketLink first) (.ret (.helpA s tk head first k)))))
      clear hl hag' hk' hag hk hx hg hbd ha hb hso hva hvk h0 h1
      generalize (K.load (E.cf.ticketLink first) (C.ret (PR.helpA s tk head first k)) : K (PR ρ)) = kk at *
      go_enter Tryz.func118, Tryz.ntmps118
      go_wp2_with fail
      refine HL.out.mono ?_
      rintro e w2 ⟨v2, L2, rfl, hd2, hg2, hc2⟩
      go_wp2
      go_ret
      exact ⟨v2, L2, rfl, hd2, hg2, hc2⟩
  | _ => exact absurd ha (by simp [isB])
set_option maxHeartbeats 4000000 in
theorem putA_call (hR : RMono (prApp E.cf R0)) {m : Nat} {f : FuncId} {s tk : Int} {head : Nat} {va vk : Value} {k : PR ρ} {L : Lab} {w : World} {S : St} {bb bi bg bt : Nat} (h64 : head < 18446744073709551616)
    (hso : StkOk E f E.cf.ticketLink) (hg : Good E L S w) (hb : BoxAt w bb E f (E.cf.inbox s)) (hi : w.cell? ⟨bi, 0, none⟩ = some (.int .i64 tk)) (h0 : w.cell? ⟨bg, 0, none⟩ = some va) (h1 : w.cell? ⟨bt, 0, none⟩ = some vk)
    (lb : L bb = 0) (li : L bi = 0) (l0 : L bg = 0) (l1 : L bt = 0)
    (hag : ConSim E.cf (prApp E.cf R0) E t isU m L w va (.ret (.again s tk k))) (hk : ConSim E.cf (prApp E.cf R0) E t isU m L w vk (.ret k)) :
    Calls Tryz.prog 116 #[.int .u64 head, .int .i64 (headIdx head), .pointer (some ⟨bb, 0, none⟩), .pointer (some ⟨bi, 0, none⟩), .pointer (some ⟨bg, 0, none⟩), .pointer (some ⟨bt, 0, none⟩)] w (Post E.cf (prApp E.cf R0) E t m L w (prApp E.cf R0 (.putA s tk k) (.w head) S)) := by
  have hfb : -1 ≤ headIdx head ∧ headIdx head ≤ 4294967294 := by unfold headIdx part; omega
  obtain ⟨ga, ca, hva, _⟩ := id hag
  obtain ⟨gk, ck, hvk, _⟩ := id hk
  subst hva
  subst hvk
  show Calls _ _ _ _ (Post E.cf (prApp E.cf R0) E t m L w (if headIdx head < 0 then (S, some (layK E.cf s tk head (headIdx head) k)) else (S, some (deadK E.cf (headIdx head) (.ret (.putB s tk head (headIdx head) k))))))
  generalize hix : headIdx head = ix at *
  have hbW : Below w.heap.size w ((w.alloc (.cells #[.int .u64 head] 92)).alloc (.cells #[.int .i64 ix] 3)) := ((Below.refl _ _).alloc (Nat.le_refl _) _).alloc (by simp) _
  have f0 : ((w.alloc (.cells #[.int .u64 head] 92)).alloc (.cells #[.int .i64 ix] 3)).cell? ⟨w.heap.size, 0, none⟩ = some (.int .u64 head) := by go_simp
  have f1 : ((w.alloc (.cells #[.int .u64 head] 92)).alloc (.cells #[.int .i64 ix] 3)).cell? ⟨w.heap.size + 1, 0, none⟩ = some (.int .i64 ix) := by go_simp
  have hb2 := hb.below hbW
  have q1 := below_cell hbW hi
  have q4 := below_cell hbW h0
  have q5 := below_cell hbW h1
  have hag2 := ConSim.ext E.cf (prApp E.cf R0) E t hag (below_ext hbW t L)
  have hk2 := ConSim.ext E.cf (prApp E.cf R0) E t hk (below_ext hbW t L)
  have m0 : L w.heap.size = 0 := hg.new _ (Nat.le_refl _)
  have m1 : L (w.heap.size + 1) = 0 := hg.new _ (by omega)
  obtain ⟨c0, c1, c2, c3, c4, c5, c6⟩ := id hb2
  by_cases hlt : ix < 0
  · rw [if_pos hlt]
    have hd : decide (ix < 0) = true := by simpa using hlt
    have hl := lay_any hR (first := ix) h64 hfb hso (hg.below hbW) hag2 hk2
    unfold boxCells at hl
    have HL := Go.Lib.hid hl
    have HB := Go.Lib.hid hbW
    clear hl hag2 hk2 hag hk hg hb hb2 hso hbW h0 h1 hi
    generalize layK E.cf s tk head ix k = kk at *
    go_enter Tryz.func116, Tryz.ntmps116
    go_wp2_with fail
    refine HL.out.mono ?_
    rintro e w2 ⟨v2, L2, rfl, hd2, hg2, hc2⟩
    go_wp2
    go_ret
    exact ⟨v2, L2, rfl, (below_did HB.out t L).trans hd2, hg2, hc2⟩
  · rw [if_neg hlt]
    have hd : decide (ix < 0) = false := by simpa using hlt
    have hl := (dead_any (n := m) (i := ix) hR (hg.below hbW) (putB_con hR h64 hfb hso hb2 q1 f0 f1 q4 q5 lb li m0 m1 l0 l1 hag2 hk2)).mono fun e w2 hp => Post.down E.cf (prApp E.cf R0) E t (Post.down E.cf (prApp E.cf R0) E t hp)
    have HL := Go.Lib.hid hl
    have HB := Go.Lib.hid hbW
    have hfd : ∀ (args : Array Value) (w : World), (callFunc 113 args).run Tryz.prog w = .ok (.enter 113 args) w := enters_deadM
    clear hl hag2 hk2 hag hk hg hb hb2 hso hbW h0 h1 hi
    generalize deadK E.cf ix (C.ret (PR.putB s tk head ix k)) = kk at *
    go_enter Tryz.func116, Tryz.ntmps116
    go_wp2_with fail
    refine HL.out.mono ?_
    rintro e w2 ⟨v2, L2, rfl, hd2, hg2, hc2⟩
    go_wp2
    go_ret
    exact ⟨v2, L2, rfl, (below_did HB.out t L).trans hd2, hg2, hc2⟩
end
end Go.Proofs.YtgemjjpmoejgdaaGreat
/- Put, as a whole. -/
namespace Go.Proofs.YtgemjjpmoejgdaaGreat
open Go.RowKit
set_option maxRecDepth 100000
set_option linter.unusedVariables false

section
variable {ρ : Type} {R0 : ρ → Arg → St → St × Option (K (PR ρ))} {E : G} {t : Nat}
set_option maxHeartbeats 2000000 in
theorem headA_con {m : Nat} {s tk : Int} {k : PR ρ} {L : Lab} {w : World} {g : FuncId} {cap : Array Value} {bx : Nat} (hgf : EntersF g) (h0 : w.cell? ⟨bx, 0, none⟩ = some (.func (.func g) #[] cap)) (lx : L bx = 0)
    (hA : ∀ head L' w' S, head < 18446744073709551616 → Ext t L w L' w' → Good E L' S w' → Bd (prApp E.cf R0 (.putA s tk k) (.w head) S).1 → Calls Tryz.prog g (#[.int .u64 head, .int .i64 (headIdx head)] ++ cap) w' (Post E.cf (prApp E.cf R0) E t m L' w' (prApp E.cf R0 (.putA s tk k) (.w head) S))) :
    ConSim E.cf (prApp E.cf R0) E t isW m L w (.func (.func 201) #[] #[.pointer (some ⟨bx, 0, none⟩)]) (.ret (.putA s tk k)) := by
  refine ⟨_, _, rfl, enters_head1, ?_⟩
  intro a L' w' S ha hx hg hbd
  cases a with
  | w head =>
    have h64 : head < 18446744073709551616 := ha
    have q0 := hx.cell0 h0 lx
    have hgf' : ∀ (args : Array Value) (w : World), (callFunc g args).run Tryz.prog w = .ok (.enter g args) w := hgf
    have HO : Hid (∀ w, Calls Tryz.prog 102 #[.int .u64 head] w fun e w' => e = .returned (.agg #[.int .i64 (headCnt head : Nat), .int .i64 (headIdx head)]) ∧ Below w.heap.size w w') := fun w => of_HeadOf head w h64
    have HP : Hid (∀ W, Below w'.heap.size w' W → Calls Tryz.prog g (#[.int .u64 head, .int .i64 (headIdx head)] ++ cap) W (Post E.cf (prApp E.cf R0) E t m L' W (prApp E.cf R0 (.putA s tk k) (.w head) S))) := fun W hW => hA head L' W S h64 (hx.trans (below_ext hW t L')) (hg.below hW) hbd
    have hfield : ∀ (a b : Int) (w : World), (Instr.field 154 (.agg #[.int .i64 a, .int .i64 b]) 1).run Tryz.prog w = .ok (.int .i64 b) w := fun _ _ _ => by kernel_rfl
    show Calls _ _ #[_, _] _ _
    show Calls _ _ _ _ (Post E.cf (prApp E.cf R0) E t m L' w' (prApp E.cf R0 (.putA s tk k) (.w head) S))
    clear hA hx hg hbd ha hgf h0
    generalize prApp E.cf R0 (.putA s tk k) (.w head) S = rr at *
    generalize headIdx head = ix at *
    generalize headCnt head = cn at *
    have q0' : ∀ d os, (Sort.grow (redrawn w' d) os).cell? ⟨bx, 0, none⟩ = some (.func (.func g) #[] cap) := fun d os => cell_regrown q0 d os
    go_enter Tryz.func201, Tryz.ntmps201
    go_wp2
    refine wp_region_below_tail 5 (by kernel_rfl) (by kernel_rfl) ?_
    simp only [List.take_succ_cons, List.take_zero, List.drop_succ_cons, List.drop_zero]
    repeat (go_big_quiet_step (first
      | (go_at_call 102; exact Calls.regrown_of (HO.out _))))
    refine wpQuiet_nil ?_
    intro W1 hw'
    obtain ⟨p, rfl⟩ := hw'
    have hb := below_regrown w' p.d p.os
    clear q0'
    generalize Sort.grow (redrawn w' p.d) p.os = W1 at *
    go_wp2_with (go_at_fn g; refine (HP.out W1 hb).mono ?_; rintro e w2 ⟨v2, L2, rfl, hd2, hg2, hc2⟩)
    go_ret
    exact ⟨v2, L2, rfl, (below_did hb t L').trans hd2, hg2, hc2⟩
  | _ => exact absurd ha (by simp [isW])
set_option maxHeartbeats 2000000 in
theorem head_gen {m : Nat} {f : FuncId} {s : Int} {g : FuncId} {cap : Array Value} {L : Lab} {w : World} {r : St × Option (K (PR ρ))}
    (hLd : ∀ W bx, Below w.heap.size w W → w.heap.size ≤ bx → W.cell? ⟨bx, 0, none⟩ = some (.func (.func g) #[] cap) → Calls Tryz.prog 91 #[.pointer (some ⟨E.a, 0, none⟩), .int .i64 (E.cf.inbox s), .func (.func 201) #[] #[.pointer (some ⟨bx, 0, none⟩)]] W (Post E.cf (prApp E.cf R0) E t m L W r)) :
    Calls Tryz.prog 115 #[.agg (boxCells E f (E.cf.inbox s)), .func (.func g) #[] cap] w (Post E.cf (prApp E.cf R0) E t m L w r) := by
  have hbW : Below w.heap.size w ((w.alloc (.cells #[.pointer (some ⟨E.a, 0, none⟩), .int .i64 (E.cf.inbox s), .func (.func f) #[.pointer (some ⟨E.p, 0, none⟩)] #[], .func (.func 113) #[.pointer (some ⟨E.k, 0, none⟩)] #[], .pointer (some ⟨E.a, 0, none⟩), .int .i64 2, .func (.func f) #[.pointer (some ⟨E.p, 0, none⟩)] #[]] 68)).alloc (.cells #[.func (.func g) #[] cap] 164)) := ((Below.refl _ _).alloc (Nat.le_refl _) _).alloc (by simp) _
  have f1 : ((w.alloc (.cells #[.pointer (some ⟨E.a, 0, none⟩), .int .i64 (E.cf.inbox s), .func (.func f) #[.pointer (some ⟨E.p, 0, none⟩)] #[], .func (.func 113) #[.pointer (some ⟨E.k, 0, none⟩)] #[], .pointer (some ⟨E.a, 0, none⟩), .int .i64 2, .func (.func f) #[.pointer (some ⟨E.p, 0, none⟩)] #[]] 68)).alloc (.cells #[.func (.func g) #[] cap] 164)).cell? ⟨w.heap.size + 1, 0, none⟩ = some (.func (.func g) #[] cap) := by go_simp
  have HL := Go.Lib.hid (hLd _ (w.heap.size + 1) hbW (Nat.le_succ _) f1)
  have HB := Go.Lib.hid hbW
  clear hLd hbW f1
  unfold boxCells
  go_enter Tryz.func115, Tryz.ntmps115
  go_wp2_with fail
  refine HL.out.mono ?_
  rintro e w2 ⟨v2, L2, rfl, hd2, hg2, hc2⟩
  go_wp2
  go_ret
  exact ⟨v2, L2, rfl, (below_did HB.out t L).trans hd2, hg2, hc2⟩
set_option maxHeartbeats 2000000 in
theorem again_con {n : Nat} {f : FuncId} {s tk : Int} {gk : FuncId} {ck : Array Value} {k : PR ρ} {L : Lab} {w : World} {bb bi bt : Nat}
    (hb : BoxAt w bb E f (E.cf.inbox s)) (hi : w.cell? ⟨bi, 0, none⟩ = some (.int .i64 tk)) (ht : w.cell? ⟨bt, 0, none⟩ = some (.func (.func gk) #[] ck)) (lb : L bb = 0) (li : L bi = 0) (lt : L bt = 0)
    (hP : ∀ L' w' S, Ext t L w L' w' → Good E L' S w' → Calls Tryz.prog 31 #[.agg (boxCells E f (E.cf.inbox s)), .int .i64 tk, .func (.func gk) #[] ck] w' (Post E.cf (prApp E.cf R0) E t n L' w' (S, some (putK E.cf s tk k)))) :
    ConSim E.cf (prApp E.cf R0) E t isU n L w (.func (.func 114) #[] #[.pointer (some ⟨bb, 0, none⟩), .pointer (some ⟨bi, 0, none⟩), .pointer (some ⟨bt, 0, none⟩)]) (.ret (.again s tk k)) := by
  refine ⟨_, _, rfl, enters_put1, ?_⟩
  intro a L' w' S ha hx hg hbd
  cases a with
  | u =>
    obtain ⟨c0, c1, c2, c3, c4, c5, c6⟩ := hb.ext hx lb
    have q1 := hx.cell0 hi li
    have q2 := hx.cell0 ht lt
    have hp := hP L' w' S hx hg
    unfold boxCells at hp
    have HP := Go.Lib.hid hp
    show Calls _ _ #[_, _, _] _ _
    show Calls _ _ _ _ (Post E.cf (prApp E.cf R0) E t n L' w' (S, some (putK E.cf s tk k)))
    clear hp hP hx hg hbd ha hb hi ht
    generalize putK E.cf s tk k = kk at *
    go_enter Tryz.func114, Tryz.ntmps114
    go_wp2_with fail
    refine HP.out.mono ?_
    rintro e w2 ⟨v2, L2, rfl, hd2, hg2, hc2⟩
    go_wp2
    go_ret
    exact ⟨v2, L2, rfl, hd2, hg2, hc2⟩
  | _ => exact absurd ha (by simp [isU])
set_option maxHeartbeats 4000000 in
theorem put_gen {m : Nat} {f : FuncId} {s tk : Int} {gk : FuncId} {ck : Array Value} {L : Lab} {w : World} {r : St × Option (K (PR ρ))}
    (hHD : ∀ W, Below w.heap.size w W → BoxAt W w.heap.size E f (E.cf.inbox s) → W.cell? ⟨w.heap.size + 1, 0, none⟩ = some (.int .i64 tk) → W.cell? ⟨w.heap.size + 1 + 1, 0, none⟩ = some (.func (.func gk) #[] ck) → W.cell? ⟨w.heap.size + 1 + 1 + 1, 0, none⟩ = some (.func (.func 114) #[] #[.pointer (some ⟨w.heap.size, 0, none⟩), .pointer (some ⟨w.heap.size + 1, 0, none⟩), .pointer (some ⟨w.heap.size + 1 + 1, 0, none⟩)]) →
      Calls Tryz.prog 115 #[.agg (boxCells E f (E.cf.inbox s)), .func (.func 116) #[] #[.pointer (some ⟨w.heap.size, 0, none⟩), .pointer (some ⟨w.heap.size + 1, 0, none⟩), .pointer (some ⟨w.heap.size + 1 + 1 + 1, 0, none⟩), .pointer (some ⟨w.heap.size + 1 + 1, 0, none⟩)]] W (Post E.cf (prApp E.cf R0) E t m L W r)) :
    Calls Tryz.prog 31 #[.agg (boxCells E f (E.cf.inbox s)), .int .i64 tk, .func (.func gk) #[] ck] w (Post E.cf (prApp E.cf R0) E t m L w r) := by
  have hbW : Below w.heap.size w ((((w.alloc (.cells #[.pointer (some ⟨E.a, 0, none⟩), .int .i64 (E.cf.inbox s), .func (.func f) #[.pointer (some ⟨E.p, 0, none⟩)] #[], .func (.func 113) #[.pointer (some ⟨E.k, 0, none⟩)] #[], .pointer (some ⟨E.a, 0, none⟩), .int .i64 2, .func (.func f) #[.pointer (some ⟨E.p, 0, none⟩)] #[]] 68)).alloc (.cells #[.int .i64 tk] 3)).alloc (.cells #[.func (.func gk) #[] ck] 43)).alloc (.cells #[.func (.func 114) #[] #[.pointer (some ⟨w.heap.size, 0, none⟩), .pointer (some ⟨w.heap.size + 1, 0, none⟩), .pointer (some ⟨w.heap.size + 1 + 1, 0, none⟩)]] 43)) := ((((Below.refl _ _).alloc (Nat.le_refl _) _).alloc (by simp) _).alloc (by simp; omega) _).alloc (by simp; omega) _
  have a0 : ((((w.alloc (.cells #[.pointer (some ⟨E.a, 0, none⟩), .int .i64 (E.cf.inbox s), .func (.func f) #[.pointer (some ⟨E.p, 0, none⟩)] #[], .func (.func 113) #[.pointer (some ⟨E.k, 0, none⟩)] #[], .pointer (some ⟨E.a, 0, none⟩), .int .i64 2, .func (.func f) #[.pointer (some ⟨E.p, 0, none⟩)] #[]] 68)).alloc (.cells #[.int .i64 tk] 3)).alloc (.cells #[.func (.func gk) #[] ck] 43)).alloc (.cells #[.func (.func 114) #[] #[.pointer (some ⟨w.heap.size, 0, none⟩), .pointer (some ⟨w.heap.size + 1, 0, none⟩), .pointer (some ⟨w.heap.size + 1 + 1, 0, none⟩)]] 43)).cell? ⟨w.heap.size, 0, none⟩ = some (.pointer (some ⟨E.a, 0, none⟩)) := by go_simp
  have a1 : ((((w.alloc (.cells #[.pointer (some ⟨E.a, 0, none⟩), .int .i64 (E.cf.inbox s), .func (.func f) #[.pointer (some ⟨E.p, 0, none⟩)] #[], .func (.func 113) #[.pointer (some ⟨E.k, 0, none⟩)] #[], .pointer (some ⟨E.a, 0, none⟩), .int .i64 2, .func (.func f) #[.pointer (some ⟨E.p, 0, none⟩)] #[]] 68)).alloc (.cells #[.int .i64 tk] 3)).alloc (.cells #[.func (.func gk) #[] ck] 43)).alloc (.cells #[.func (.func 114) #[] #[.pointer (some ⟨w.heap.size, 0, none⟩), .pointer (some ⟨w.heap.size + 1, 0, none⟩), .pointer (some ⟨w.heap.size + 1 + 1, 0, none⟩)]] 43)).cell? ⟨w.heap.size, 1, none⟩ = some (.int .i64 (E.cf.inbox s)) := by go_simp
  have a2 : ((((w.alloc (.cells #[.pointer (some ⟨E.a, 0, none⟩), .int .i64 (E.cf.inbox s), .func (.func f) #[.pointer (some ⟨E.p, 0, none⟩)] #[], .func (.func 113) #[.pointer (some ⟨E.k, 0, none⟩)] #[], .pointer (some ⟨E.a, 0, none⟩), .int .i64 2, .func (.func f) #[.pointer (some ⟨E.p, 0, none⟩)] #[]] 68)).alloc (.cells #[.int .i64 tk] 3)).alloc (.cells #[.func (.func gk) #[] ck] 43)).alloc (.cells #[.func (.func 114) #[] #[.pointer (some ⟨w.heap.size, 0, none⟩), .pointer (some ⟨w.heap.size + 1, 0, none⟩), .pointer (some ⟨w.heap.size + 1 + 1, 0, none⟩)]] 43)).cell? ⟨w.heap.size, 2, none⟩ = some (.func (.func f) #[.pointer (some ⟨E.p, 0, none⟩)] #[]) := by go_simp
  have a3 : ((((w.alloc (.cells #[.pointer (some ⟨E.a, 0, none⟩), .int .i64 (E.cf.inbox s), .func (.func f) #[.pointer (some ⟨E.p, 0, none⟩)] #[], .func (.func 113) #[.pointer (some ⟨E.k, 0, none⟩)] #[], .pointer (some ⟨E.a, 0, none⟩), .int .i64 2, .func (.func f) #[.pointer (some ⟨E.p, 0, none⟩)] #[]] 68)).alloc (.cells #[.int .i64 tk] 3)).alloc (.cells #[.func (.func gk) #[] ck] 43)).alloc (.cells #[.func (.func 114) #[] #[.pointer (some ⟨w.heap.size, 0, none⟩), .pointer (some ⟨w.heap.size + 1, 0, none⟩), .pointer (some ⟨w.heap.size + 1 + 1, 0, none⟩)]] 43)).cell? ⟨w.heap.size, 3, none⟩ = some (.func (.func 113) #[.pointer (some ⟨E.k, 0, none⟩)] #[]) := by go_simp
  have a4 : ((((w.alloc (.cells #[.pointer (some ⟨E.a, 0, none⟩), .int .i64 (E.cf.inbox s), .func (.func f) #[.pointer (some ⟨E.p, 0, none⟩)] #[], .func (.func 113) #[.pointer (some ⟨E.k, 0, none⟩)] #[], .pointer (some ⟨E.a, 0, none⟩), .int .i64 2, .func (.func f) #[.pointer (some ⟨E.p, 0, none⟩)] #[]] 68)).alloc (.cells #[.int .i64 tk] 3)).alloc (.cells #[.func (.func gk) #[] ck] 43)).alloc (.cells #[.func (.func 114) #[] #[.pointer (some ⟨w.heap.size, 0, none⟩), .pointer (some ⟨w.heap.size + 1, 0, none⟩), .pointer (some ⟨w.heap.size + 1 + 1, 0, none⟩)]] 43)).cell? ⟨w.heap.size, 4, none⟩ = some (.pointer (some ⟨E.a, 0, none⟩)) := by go_simp
  have a5 : ((((w.alloc (.cells #[.pointer (some ⟨E.a, 0, none⟩), .int .i64 (E.cf.inbox s), .func (.func f) #[.pointer (some ⟨E.p, 0, none⟩)] #[], .func (.func 113) #[.pointer (some ⟨E.k, 0, none⟩)] #[], .pointer (some ⟨E.a, 0, none⟩), .int .i64 2, .func (.func f) #[.pointer (some ⟨E.p, 0, none⟩)] #[]] 68)).alloc (.cells #[.int .i64 tk] 3)).alloc (.cells #[.func (.func gk) #[] ck] 43)).alloc (.cells #[.func (.func 114) #[] #[.pointer (some ⟨w.heap.size, 0, none⟩), .pointer (some ⟨w.heap.size + 1, 0, none⟩), .pointer (some ⟨w.heap.size + 1 + 1, 0, none⟩)]] 43)).cell? ⟨w.heap.size, 5, none⟩ = some (.int .i64 2) := by go_simp
  have a6 : ((((w.alloc (.cells #[.pointer (some ⟨E.a, 0, none⟩), .int .i64 (E.cf.inbox s), .func (.func f) #[.pointer (some ⟨E.p, 0, none⟩)] #[], .func (.func 113) #[.pointer (some ⟨E.k, 0, none⟩)] #[], .pointer (some ⟨E.a, 0, none⟩), .int .i64 2, .func (.func f) #[.pointer (some ⟨E.p, 0, none⟩)] #[]] 68)).alloc (.cells #[.int .i64 tk] 3)).alloc (.cells #[.func (.func gk) #[] ck] 43)).alloc (.cells #[.func (.func 114) #[] #[.pointer (some ⟨w.heap.size, 0, none⟩), .pointer (some ⟨w.heap.size + 1, 0, none⟩), .pointer (some ⟨w.heap.size + 1 + 1, 0, none⟩)]] 43)).cell? ⟨w.heap.size, 6, none⟩ = some (.func (.func f) #[.pointer (some ⟨E.p, 0, none⟩)] #[]) := by go_simp
  have f1 : ((((w.alloc (.cells #[.pointer (some ⟨E.a, 0, none⟩), .int .i64 (E.cf.inbox s), .func (.func f) #[.pointer (some ⟨E.p, 0, none⟩)] #[], .func (.func 113) #[.pointer (some ⟨E.k, 0, none⟩)] #[], .pointer (some ⟨E.a, 0, none⟩), .int .i64 2, .func (.func f) #[.pointer (some ⟨E.p, 0, none⟩)] #[]] 68)).alloc (.cells #[.int .i64 tk] 3)).alloc (.cells #[.func (.func gk) #[] ck] 43)).alloc (.cells #[.func (.func 114) #[] #[.pointer (some ⟨w.heap.size, 0, none⟩), .pointer (some ⟨w.heap.size + 1, 0, none⟩), .pointer (some ⟨w.heap.size + 1 + 1, 0, none⟩)]] 43)).cell? ⟨w.heap.size + 1, 0, none⟩ = some (.int .i64 tk) := by go_simp
  have f2 : ((((w.alloc (.cells #[.pointer (some ⟨E.a, 0, none⟩), .int .i64 (E.cf.inbox s), .func (.func f) #[.pointer (some ⟨E.p, 0, none⟩)] #[], .func (.func 113) #[.pointer (some ⟨E.k, 0, none⟩)] #[], .pointer (some ⟨E.a, 0, none⟩), .int .i64 2, .func (.func f) #[.pointer (some ⟨E.p, 0, none⟩)] #[]] 68)).alloc (.cells #[.int .i64 tk] 3)).alloc (.cells #[.func (.func gk) #[] ck] 43)).alloc (.cells #[.func (.func 114) #[] #[.pointer (some ⟨w.heap.size, 0, none⟩), .pointer (some ⟨w.heap.size + 1, 0, none⟩), .pointer (some ⟨w.heap.size + 1 + 1, 0, none⟩)]] 43)).cell? ⟨w.heap.size + 1 + 1, 0, none⟩ = some (.func (.func gk) #[] ck) := by go_simp
  have f3 : ((((w.alloc (.cells #[.pointer (some ⟨E.a, 0, none⟩), .int .i64 (E.cf.inbox s), .func (.func f) #[.pointer (some ⟨E.p, 0, none⟩)] #[], .func (.func 113) #[.pointer (some ⟨E.k, 0, none⟩)] #[], .pointer (some ⟨E.a, 0, none⟩), .int .i64 2, .func (.func f) #[.pointer (some ⟨E.p, 0, none⟩)] #[]] 68)).alloc (.cells #[.int .i64 tk] 3)).alloc (.cells #[.func (.func gk) #[] ck] 43)).alloc (.cells #[.func (.func 114) #[] #[.pointer (some ⟨w.heap.size, 0, none⟩), .pointer (some ⟨w.heap.size + 1, 0, none⟩), .pointer (some ⟨w.heap.size + 1 + 1, 0, none⟩)]] 43)).cell? ⟨w.heap.size + 1 + 1 + 1, 0, none⟩ = some (.func (.func 114) #[] #[.pointer (some ⟨w.heap.size, 0, none⟩), .pointer (some ⟨w.heap.size + 1, 0, none⟩), .pointer (some ⟨w.heap.size + 1 + 1, 0, none⟩)]) := by go_simp
  have hh := hHD _ hbW ⟨a0, a1, a2, a3, a4, a5, a6⟩ f1 f2 f3
  unfold boxCells at hh
  have HH := Go.Lib.hid hh
  have HB := Go.Lib.hid hbW
  clear hHD hh hbW
  unfold boxCells
  go_enter Tryz.func31, Tryz.ntmps31
  go_wp2_with fail
  refine HH.out.mono ?_
  rintro e w2 ⟨v2, L2, rfl, hd2, hg2, hc2⟩
  go_wp2
  go_ret
  exact ⟨v2, L2, rfl, (below_did HB.out t L).trans hd2, hg2, hc2⟩
theorem put_zero {f : FuncId} {s tk : Int} {gk : FuncId} {ck : Array Value} {k : PR ρ} {L : Lab} {w : World} {S : St} (hg : Good E L S w) :
    Calls Tryz.prog 31 #[.agg (boxCells E f (E.cf.inbox s)), .int .i64 tk, .func (.func gk) #[] ck] w (Post E.cf (prApp E.cf R0) E t 0 L w (S, some (putK E.cf s tk k))) :=
  put_gen fun W hW _ _ _ _ => head_gen fun W2 bx hW2 _ _ => load_zero ((hg.below hW).below hW2)
/-- Put is code that lays a ticket into a shard's box. -/
theorem put_any (hR : RMono (prApp E.cf R0)) {f : FuncId} {s tk : Int} {vk : Value} {k : PR ρ} (hso : StkOk E f E.cf.ticketLink) : ∀ (m : Nat) (L : Lab) (w : World) (S : St), Good E L S w → ConSim E.cf (prApp E.cf R0) E t isU m L w vk (.ret k) →
    Calls Tryz.prog 31 #[.agg (boxCells E f (E.cf.inbox s)), .int .i64 tk, vk] w (Post E.cf (prApp E.cf R0) E t (m + 1) L w (S, some (putK E.cf s tk k))) := by
  intro m
  induction m using Nat.strongRecOn with
  | ind m ih =>
    intro L w S hg hk
    obtain ⟨gk, ck, hv, _⟩ := id hk
    subst hv
    refine put_gen fun W hW hbx f1 f2 f3 => head_gen fun W2 bx hW2 hbx2 fx => ?_
    have hB2 := hW.trans (hW2.mono hW.size)
    have m0 : L w.heap.size = 0 := hg.new _ (Nat.le_refl _)
    have m1 : L (w.heap.size + 1) = 0 := hg.new _ (by omega)
    have m2 : L (w.heap.size + 1 + 1) = 0 := hg.new _ (by omega)
    have m3 : L (w.heap.size + 1 + 1 + 1) = 0 := hg.new _ (by omega)
    have mx : L bx = 0 := hg.new _ (Nat.le_trans hW.size hbx2)
    have hbx' := hbx.below hW2
    have f1' := below_cell hW2 f1
    have f2' := below_cell hW2 f2
    have f3' := below_cell hW2 f3
    refine load_any hR (hg.below hB2) (headA_con enters_put2 fx mx ?_)
    intro head L' w' S' h64 hx hg' _
    have hagn := again_con (R0 := R0) (n := m) (k := k) hbx' f1' f2' m0 m1 m2 (fun L2 w2 S2 hx2 hg2 => by
      cases m with
      | zero => exact put_zero hg2
      | succ j => exact ih j (by omega) L2 w2 S2 hg2 (ConSim.ext E.cf (prApp E.cf R0) E t (hk.le (by omega)) ((below_ext hB2 t L).trans hx2)))
    exact putA_call hR h64 hso hg' (hbx'.ext hx m0) (hx.cell0 f1' m1) (hx.cell0 f3' m3) (hx.cell0 f2' m2) ((hx.lab _ (cell_lt hbx'.c0)).trans m0) ((hx.lab _ (cell_lt f1')).trans m1) ((hx.lab _ (cell_lt f3')).trans m3) ((hx.lab _ (cell_lt f2')).trans m2)
      (ConSim.ext E.cf (prApp E.cf R0) E t hagn hx) (ConSim.ext E.cf (prApp E.cf R0) E t hk ((below_ext hB2 t L).trans hx))
end
end Go.Proofs.YtgemjjpmoejgdaaGreat
/- The Points of a Start are right. -/
namespace Go.Proofs.YtgemjjpmoejgdaaGreat
open Go.RowKit
set_option maxRecDepth 100000
set_option linter.unusedVariables false

set_option maxHeartbeats 2000000 in
theorem start_fields0 (wk n g T : Int) (w : World) :
    Calls Tryz.prog 259 #[.agg #[.int .i64 3, .int .i64 wk, .int .i64 1, .int .i64 0, .int .i64 0, .int .i64 n, .int .i64 g, .int .i64 T, .int .i64 0, .int .i64 0, .bool false, .int .i64 0]] w fun e w' =>
      e = .returned (.tuple #[.int .i64 70, .bool true]) ∧ Below w.heap.size w w' := by
  go_enter Tryz.func259, Tryz.ntmps259
  go_wp2
  go_ret2
  exact ⟨rfl, ((Below.refl _ _).alloc (Nat.le_refl _) _).alloc (by simp) _⟩
set_option maxHeartbeats 2000000 in
theorem start_fieldsE (wk er : Int) (he : er ≠ 0) (w : World) :
    Calls Tryz.prog 259 #[.agg #[.int .i64 3, .int .i64 wk, .int .i64 1, .int .i64 0, .int .i64 0, .int .i64 0, .int .i64 0, .int .i64 0, .int .i64 0, .int .i64 0, .bool false, .int .i64 er]] w fun e w' =>
      e = .returned (.tuple #[.int .i64 64, .bool true]) ∧ Below w.heap.size w w' := by
  have hq : (er != 0) = true := by simpa using he
  go_enter Tryz.func259, Tryz.ntmps259
  go_wp2
  go_ret2
  exact ⟨rfl, ((Below.refl _ _).alloc (Nat.le_refl _) _).alloc (by simp) _⟩
theorem run_min4 (P : Program) (ts : Array TypeId) (t : TypeId) (n g : Int) (h1 : 0 ≤ n) (h2 : 0 ≤ g) (w : World) : Sem.run P (Builtin.min_ ts t #[.int .i64 n, .int .i64 g, .int .i64 0, .int .i64 0]) w = .ok (.int .i64 0) w := by
  simp [Builtin.min_, Builtin.min2]
  by_cases q : g < n
  · simp [q]
    intro h; omega
  · simp [q]
    intro h; omega
set_option maxHeartbeats 2000000 in
theorem start_counted (wk n g T er : Int) (h1 : 0 ≤ n) (h2 : 0 ≤ g) (h3 : 0 ≤ T) (w : World) :
    Calls Tryz.prog 260 #[.agg #[.int .i64 3, .int .i64 wk, .int .i64 1, .int .i64 0, .int .i64 0, .int .i64 n, .int .i64 g, .int .i64 T, .int .i64 0, .int .i64 0, .bool false, .int .i64 er]] w fun e w' =>
      e = .returned (.bool true) ∧ Below w.heap.size w w' := by
  have hm : ∀ (ts : Array TypeId) (t : TypeId) (w : World), Sem.run Tryz.prog (Builtin.min_ ts t #[.int .i64 n, .int .i64 g, .int .i64 0, .int .i64 0]) w = .ok (.int .i64 0) w := fun ts t w => run_min4 _ ts t n g h1 h2 w
  go_enter Tryz.func260, Tryz.ntmps260
  go_wp2
  go_ret
  exact ⟨by simp [h3], (Below.refl _ _).alloc (Nat.le_refl _) _⟩
set_option maxHeartbeats 2000000 in
theorem start_bare0 (wk n g T : Int) (w : World) :
    Calls Tryz.prog 261 #[.agg #[.int .i64 3, .int .i64 wk, .int .i64 1, .int .i64 0, .int .i64 0, .int .i64 n, .int .i64 g, .int .i64 T, .int .i64 0, .int .i64 0, .bool false, .int .i64 0], .int .i64 70] w fun e w' =>
      e = .returned (.agg #[.int .i64 3, .int .i64 wk, .int .i64 1, .int .i64 0, .int .i64 0, .int .i64 0, .int .i64 0, .int .i64 0, .int .i64 0, .int .i64 0, .bool false, .int .i64 0]) ∧ Below w.heap.size w w' := by
  go_enter Tryz.func261, Tryz.ntmps261
  go_wp2
  refine wp_loop_rounds 4 ?_
  rw [rounds_succ]
  go_wp2
  rw [rounds_succ]
  go_wp2
  rw [rounds_succ]
  go_wp2
  rw [rounds_succ]
  go_wp2
  refine bodyPost_ret (v := .agg #[.int .i64 3, .int .i64 wk, .int .i64 1, .int .i64 0, .int .i64 0, .int .i64 0, .int .i64 0, .int .i64 0, .int .i64 0, .int .i64 0, .bool false, .int .i64 0]) (by simp [results, Tryz.results261, go_sem]) rfl ⟨rfl, ?_⟩
  repeat (first | exact Below.refl _ _ | refine Below.setCell ?_ (by simp) _ | refine Below.alloc ?_ (by simp; omega) _ | refine Below.alloc ?_ (by simp) _ | refine Below.drew ?_)
set_option maxHeartbeats 2000000 in
theorem start_bareE (wk er : Int) (w : World) :
    Calls Tryz.prog 261 #[.agg #[.int .i64 3, .int .i64 wk, .int .i64 1, .int .i64 0, .int .i64 0, .int .i64 0, .int .i64 0, .int .i64 0, .int .i64 0, .int .i64 0, .bool false, .int .i64 er], .int .i64 64] w fun e w' =>
      e = .returned (.agg #[.int .i64 3, .int .i64 wk, .int .i64 1, .int .i64 0, .int .i64 0, .int .i64 0, .int .i64 0, .int .i64 0, .int .i64 0, .int .i64 0, .bool false, .int .i64 0]) ∧ Below w.heap.size w w' := by
  go_enter Tryz.func261, Tryz.ntmps261
  go_wp2
  refine wp_loop_rounds 4 ?_
  rw [rounds_succ]
  go_wp2
  rw [rounds_succ]
  go_wp2
  rw [rounds_succ]
  go_wp2
  rw [rounds_succ]
  go_wp2
  refine bodyPost_ret (v := .agg #[.int .i64 3, .int .i64 wk, .int .i64 1, .int .i64 0, .int .i64 0, .int .i64 0, .int .i64 0, .int .i64 0, .int .i64 0, .int .i64 0, .bool false, .int .i64 0]) (by simp [results, Tryz.results261, go_sem]) rfl ⟨rfl, ?_⟩
  repeat (first | exact Below.refl _ _ | refine Below.setCell ?_ (by simp) _ | refine Below.alloc ?_ (by simp; omega) _ | refine Below.alloc ?_ (by simp) _ | refine Below.drew ?_)
end Go.Proofs.YtgemjjpmoejgdaaGreat
/- The Points of a Start are right: the whole. -/
namespace Go.Proofs.YtgemjjpmoejgdaaGreat
open Go.RowKit
set_option maxRecDepth 100000
set_option linter.unusedVariables false

set_option maxHeartbeats 4000000 in
theorem start_right0 (wk n g T : Int) (hw : 0 ≤ wk) (h1 : 0 ≤ n) (h2 : 0 ≤ g) (h3 : 0 ≤ T) (w : World) :
    Calls Tryz.prog 235 #[.agg #[.int .i64 3, .int .i64 wk, .int .i64 1, .int .i64 0, .int .i64 0, .int .i64 n, .int .i64 g, .int .i64 T, .int .i64 0, .int .i64 0, .bool false, .int .i64 0]] w fun e w' => e = .returned (.bool true) ∧ Below w.heap.size w w' := by
  have e0 : (w.alloc (.cells #[.int .i64 3, .int .i64 wk, .int .i64 1, .int .i64 0, .int .i64 0, .int .i64 n, .int .i64 g, .int .i64 T, .int .i64 0, .int .i64 0, .bool false, .int .i64 0] 101)).cell? ⟨w.heap.size, 0, none⟩ = some (.int .i64 3) := by go_simp
  have e1 : (w.alloc (.cells #[.int .i64 3, .int .i64 wk, .int .i64 1, .int .i64 0, .int .i64 0, .int .i64 n, .int .i64 g, .int .i64 T, .int .i64 0, .int .i64 0, .bool false, .int .i64 0] 101)).cell? ⟨w.heap.size, 1, none⟩ = some (.int .i64 wk) := by go_simp
  have e2 : (w.alloc (.cells #[.int .i64 3, .int .i64 wk, .int .i64 1, .int .i64 0, .int .i64 0, .int .i64 n, .int .i64 g, .int .i64 T, .int .i64 0, .int .i64 0, .bool false, .int .i64 0] 101)).cell? ⟨w.heap.size, 2, none⟩ = some (.int .i64 1) := by go_simp
  have e3 : (w.alloc (.cells #[.int .i64 3, .int .i64 wk, .int .i64 1, .int .i64 0, .int .i64 0, .int .i64 n, .int .i64 g, .int .i64 T, .int .i64 0, .int .i64 0, .bool false, .int .i64 0] 101)).cell? ⟨w.heap.size, 3, none⟩ = some (.int .i64 0) := by go_simp
  have e4 : (w.alloc (.cells #[.int .i64 3, .int .i64 wk, .int .i64 1, .int .i64 0, .int .i64 0, .int .i64 n, .int .i64 g, .int .i64 T, .int .i64 0, .int .i64 0, .bool false, .int .i64 0] 101)).cell? ⟨w.heap.size, 4, none⟩ = some (.int .i64 0) := by go_simp
  have e5 : (w.alloc (.cells #[.int .i64 3, .int .i64 wk, .int .i64 1, .int .i64 0, .int .i64 0, .int .i64 n, .int .i64 g, .int .i64 T, .int .i64 0, .int .i64 0, .bool false, .int .i64 0] 101)).cell? ⟨w.heap.size, 5, none⟩ = some (.int .i64 n) := by go_simp
  have e6 : (w.alloc (.cells #[.int .i64 3, .int .i64 wk, .int .i64 1, .int .i64 0, .int .i64 0, .int .i64 n, .int .i64 g, .int .i64 T, .int .i64 0, .int .i64 0, .bool false, .int .i64 0] 101)).cell? ⟨w.heap.size, 6, none⟩ = some (.int .i64 g) := by go_simp
  have e7 : (w.alloc (.cells #[.int .i64 3, .int .i64 wk, .int .i64 1, .int .i64 0, .int .i64 0, .int .i64 n, .int .i64 g, .int .i64 T, .int .i64 0, .int .i64 0, .bool false, .int .i64 0] 101)).cell? ⟨w.heap.size, 7, none⟩ = some (.int .i64 T) := by go_simp
  have e8 : (w.alloc (.cells #[.int .i64 3, .int .i64 wk, .int .i64 1, .int .i64 0, .int .i64 0, .int .i64 n, .int .i64 g, .int .i64 T, .int .i64 0, .int .i64 0, .bool false, .int .i64 0] 101)).cell? ⟨w.heap.size, 8, none⟩ = some (.int .i64 0) := by go_simp
  have e9 : (w.alloc (.cells #[.int .i64 3, .int .i64 wk, .int .i64 1, .int .i64 0, .int .i64 0, .int .i64 n, .int .i64 g, .int .i64 T, .int .i64 0, .int .i64 0, .bool false, .int .i64 0] 101)).cell? ⟨w.heap.size, 9, none⟩ = some (.int .i64 0) := by go_simp
  have e10 : (w.alloc (.cells #[.int .i64 3, .int .i64 wk, .int .i64 1, .int .i64 0, .int .i64 0, .int .i64 n, .int .i64 g, .int .i64 T, .int .i64 0, .int .i64 0, .bool false, .int .i64 0] 101)).cell? ⟨w.heap.size, 10, none⟩ = some (.bool false) := by go_simp
  have e11 : (w.alloc (.cells #[.int .i64 3, .int .i64 wk, .int .i64 1, .int .i64 0, .int .i64 0, .int .i64 n, .int .i64 g, .int .i64 T, .int .i64 0, .int .i64 0, .bool false, .int .i64 0] 101)).cell? ⟨w.heap.size, 11, none⟩ = some (.int .i64 0) := by go_simp
  have hB : Below w.heap.size w (w.alloc (.cells #[.int .i64 3, .int .i64 wk, .int .i64 1, .int .i64 0, .int .i64 0, .int .i64 n, .int .i64 g, .int .i64 T, .int .i64 0, .int .i64 0, .bool false, .int .i64 0] 101)) := (Below.refl _ _).alloc (Nat.le_refl _) _
  have HF := Go.Lib.hid (start_fields0 wk n g T)
  have HC := Go.Lib.hid (start_counted wk n g T 0 h1 h2 h3)
  have HBR := Go.Lib.hid (start_bare0 wk n g T)
  have hd1 : decide (wk < 0) = false := by simp; omega
  go_enter Tryz.func235, Tryz.ntmps235
  go_wp2_with fail
  generalize (w.alloc (.cells #[.int .i64 3, .int .i64 wk, .int .i64 1, .int .i64 0, .int .i64 0, .int .i64 n, .int .i64 g, .int .i64 T, .int .i64 0, .int .i64 0, .bool false, .int .i64 0] 101)) = W at *
  generalize hgb : w.heap.size = b at *
  replace hgb := Go.Lib.hid hgb
  refine (HF.out _).mono ?_
  rintro e w1 ⟨rfl, hb⟩
  have e0 := below_cell hb e0
  have e1 := below_cell hb e1
  have e2 := below_cell hb e2
  have e3 := below_cell hb e3
  have e4 := below_cell hb e4
  have e5 := below_cell hb e5
  have e6 := below_cell hb e6
  have e7 := below_cell hb e7
  have e8 := below_cell hb e8
  have e9 := below_cell hb e9
  have e10 := below_cell hb e10
  have e11 := below_cell hb e11
  have hB1 := hB.trans (hb.mono (by rw [← hgb.out]; exact hB.size))
  clear hb hB
  go_wp2_with fail
  refine (HC.out _).mono ?_
  rintro e w2 ⟨rfl, hb⟩
  have e0 := below_cell hb e0
  have e1 := below_cell hb e1
  have e2 := below_cell hb e2
  have e3 := below_cell hb e3
  have e4 := below_cell hb e4
  have e5 := below_cell hb e5
  have e6 := below_cell hb e6
  have e7 := below_cell hb e7
  have e8 := below_cell hb e8
  have e9 := below_cell hb e9
  have e10 := below_cell hb e10
  have e11 := below_cell hb e11
  have hB2 := hB1.trans (hb.mono (by rw [← hgb.out]; exact hB1.size))
  clear hb hB1
  go_wp2
  go_region_held3 (fun w' => w'.cell? ⟨b, 0, none⟩ = some (.int .i64 3) ∧ w'.cell? ⟨b, 1, none⟩ = some (.int .i64 wk) ∧ w'.cell? ⟨b, 2, none⟩ = some (.int .i64 1) ∧ w'.cell? ⟨b, 3, none⟩ = some (.int .i64 0) ∧ w'.cell? ⟨b, 4, none⟩ = some (.int .i64 0) ∧ w'.cell? ⟨b, 5, none⟩ = some (.int .i64 n) ∧ w'.cell? ⟨b, 6, none⟩ = some (.int .i64 g) ∧ w'.cell? ⟨b, 7, none⟩ = some (.int .i64 T) ∧ w'.cell? ⟨b, 8, none⟩ = some (.int .i64 0) ∧ w'.cell? ⟨b, 9, none⟩ = some (.int .i64 0) ∧ w'.cell? ⟨b, 10, none⟩ = some (.bool false) ∧ w'.cell? ⟨b, 11, none⟩ = some (.int .i64 0))
    (first | exact ⟨e0, e1, e2, e3, e4, e5, e6, e7, e8, e9, e10, e11⟩)
    (first
    | (go_at_call 261; refine (HBR.out _).mono ?_; rintro e w3 ⟨rfl, hb0⟩; have e0 := below_cell hb0 e0; have e1 := below_cell hb0 e1; have e2 := below_cell hb0 e2; have e3 := below_cell hb0 e3; have e4 := below_cell hb0 e4; have e5 := below_cell hb0 e5; have e6 := below_cell hb0 e6; have e7 := below_cell hb0 e7; have e8 := below_cell hb0 e8; have e9 := below_cell hb0 e9; have e10 := below_cell hb0 e10; have e11 := below_cell hb0 e11; have hB3 : Below b w w3 := (by first | exact hB2.trans (hb0.mono (by rw [← hgb.out]; exact hB2.size)) | exact hB2.drew.trans (hb0.mono (by rw [← hgb.out]; exact hB2.size)))))
  all_goals
    go_wp2
    go_ret
    exact ⟨rfl, hgb.out ▸ (by first | exact hB3 | exact hB3.drew)⟩
set_option maxHeartbeats 4000000 in
theorem start_rightE (wk er : Int) (hw : 0 ≤ wk) (he : 0 < er) (w : World) :
    Calls Tryz.prog 235 #[.agg #[.int .i64 3, .int .i64 wk, .int .i64 1, .int .i64 0, .int .i64 0, .int .i64 0, .int .i64 0, .int .i64 0, .int .i64 0, .int .i64 0, .bool false, .int .i64 er]] w fun e w' => e = .returned (.bool true) ∧ Below w.heap.size w w' := by
  have e0 : (w.alloc (.cells #[.int .i64 3, .int .i64 wk, .int .i64 1, .int .i64 0, .int .i64 0, .int .i64 0, .int .i64 0, .int .i64 0, .int .i64 0, .int .i64 0, .bool false, .int .i64 er] 101)).cell? ⟨w.heap.size, 0, none⟩ = some (.int .i64 3) := by go_simp
  have e1 : (w.alloc (.cells #[.int .i64 3, .int .i64 wk, .int .i64 1, .int .i64 0, .int .i64 0, .int .i64 0, .int .i64 0, .int .i64 0, .int .i64 0, .int .i64 0, .bool false, .int .i64 er] 101)).cell? ⟨w.heap.size, 1, none⟩ = some (.int .i64 wk) := by go_simp
  have e2 : (w.alloc (.cells #[.int .i64 3, .int .i64 wk, .int .i64 1, .int .i64 0, .int .i64 0, .int .i64 0, .int .i64 0, .int .i64 0, .int .i64 0, .int .i64 0, .bool false, .int .i64 er] 101)).cell? ⟨w.heap.size, 2, none⟩ = some (.int .i64 1) := by go_simp
  have e3 : (w.alloc (.cells #[.int .i64 3, .int .i64 wk, .int .i64 1, .int .i64 0, .int .i64 0, .int .i64 0, .int .i64 0, .int .i64 0, .int .i64 0, .int .i64 0, .bool false, .int .i64 er] 101)).cell? ⟨w.heap.size, 3, none⟩ = some (.int .i64 0) := by go_simp
  have e4 : (w.alloc (.cells #[.int .i64 3, .int .i64 wk, .int .i64 1, .int .i64 0, .int .i64 0, .int .i64 0, .int .i64 0, .int .i64 0, .int .i64 0, .int .i64 0, .bool false, .int .i64 er] 101)).cell? ⟨w.heap.size, 4, none⟩ = some (.int .i64 0) := by go_simp
  have e5 : (w.alloc (.cells #[.int .i64 3, .int .i64 wk, .int .i64 1, .int .i64 0, .int .i64 0, .int .i64 0, .int .i64 0, .int .i64 0, .int .i64 0, .int .i64 0, .bool false, .int .i64 er] 101)).cell? ⟨w.heap.size, 5, none⟩ = some (.int .i64 0) := by go_simp
  have e6 : (w.alloc (.cells #[.int .i64 3, .int .i64 wk, .int .i64 1, .int .i64 0, .int .i64 0, .int .i64 0, .int .i64 0, .int .i64 0, .int .i64 0, .int .i64 0, .bool false, .int .i64 er] 101)).cell? ⟨w.heap.size, 6, none⟩ = some (.int .i64 0) := by go_simp
  have e7 : (w.alloc (.cells #[.int .i64 3, .int .i64 wk, .int .i64 1, .int .i64 0, .int .i64 0, .int .i64 0, .int .i64 0, .int .i64 0, .int .i64 0, .int .i64 0, .bool false, .int .i64 er] 101)).cell? ⟨w.heap.size, 7, none⟩ = some (.int .i64 0) := by go_simp
  have e8 : (w.alloc (.cells #[.int .i64 3, .int .i64 wk, .int .i64 1, .int .i64 0, .int .i64 0, .int .i64 0, .int .i64 0, .int .i64 0, .int .i64 0, .int .i64 0, .bool false, .int .i64 er] 101)).cell? ⟨w.heap.size, 8, none⟩ = some (.int .i64 0) := by go_simp
  have e9 : (w.alloc (.cells #[.int .i64 3, .int .i64 wk, .int .i64 1, .int .i64 0, .int .i64 0, .int .i64 0, .int .i64 0, .int .i64 0, .int .i64 0, .int .i64 0, .bool false, .int .i64 er] 101)).cell? ⟨w.heap.size, 9, none⟩ = some (.int .i64 0) := by go_simp
  have e10 : (w.alloc (.cells #[.int .i64 3, .int .i64 wk, .int .i64 1, .int .i64 0, .int .i64 0, .int .i64 0, .int .i64 0, .int .i64 0, .int .i64 0, .int .i64 0, .bool false, .int .i64 er] 101)).cell? ⟨w.heap.size, 10, none⟩ = some (.bool false) := by go_simp
  have e11 : (w.alloc (.cells #[.int .i64 3, .int .i64 wk, .int .i64 1, .int .i64 0, .int .i64 0, .int .i64 0, .int .i64 0, .int .i64 0, .int .i64 0, .int .i64 0, .bool false, .int .i64 er] 101)).cell? ⟨w.heap.size, 11, none⟩ = some (.int .i64 er) := by go_simp
  have hB : Below w.heap.size w (w.alloc (.cells #[.int .i64 3, .int .i64 wk, .int .i64 1, .int .i64 0, .int .i64 0, .int .i64 0, .int .i64 0, .int .i64 0, .int .i64 0, .int .i64 0, .bool false, .int .i64 er] 101)) := (Below.refl _ _).alloc (Nat.le_refl _) _
  have HF := Go.Lib.hid (start_fieldsE wk er (by omega))
  have HC := Go.Lib.hid (start_counted wk 0 0 0 er (by omega) (by omega) (by omega))
  have HBR := Go.Lib.hid (start_bareE wk er)
  have hd1 : decide (wk < 0) = false := by simp; omega
  have hd2 : decide (er < 0) = false := by simp; omega
  go_enter Tryz.func235, Tryz.ntmps235
  go_wp2_with fail
  generalize (w.alloc (.cells #[.int .i64 3, .int .i64 wk, .int .i64 1, .int .i64 0, .int .i64 0, .int .i64 0, .int .i64 0, .int .i64 0, .int .i64 0, .int .i64 0, .bool false, .int .i64 er] 101)) = W at *
  generalize hgb : w.heap.size = b at *
  replace hgb := Go.Lib.hid hgb
  refine (HF.out _).mono ?_
  rintro e w1 ⟨rfl, hb⟩
  have e0 := below_cell hb e0
  have e1 := below_cell hb e1
  have e2 := below_cell hb e2
  have e3 := below_cell hb e3
  have e4 := below_cell hb e4
  have e5 := below_cell hb e5
  have e6 := below_cell hb e6
  have e7 := below_cell hb e7
  have e8 := below_cell hb e8
  have e9 := below_cell hb e9
  have e10 := below_cell hb e10
  have e11 := below_cell hb e11
  have hB1 := hB.trans (hb.mono (by rw [← hgb.out]; exact hB.size))
  clear hb hB
  go_wp2_with fail
  refine (HC.out _).mono ?_
  rintro e w2 ⟨rfl, hb⟩
  have e0 := below_cell hb e0
  have e1 := below_cell hb e1
  have e2 := below_cell hb e2
  have e3 := below_cell hb e3
  have e4 := below_cell hb e4
  have e5 := below_cell hb e5
  have e6 := below_cell hb e6
  have e7 := below_cell hb e7
  have e8 := below_cell hb e8
  have e9 := below_cell hb e9
  have e10 := below_cell hb e10
  have e11 := below_cell hb e11
  have hB2 := hB1.trans (hb.mono (by rw [← hgb.out]; exact hB1.size))
  clear hb hB1
  go_wp2
  go_region_held3 (fun w' => w'.cell? ⟨b, 0, none⟩ = some (.int .i64 3) ∧ w'.cell? ⟨b, 1, none⟩ = some (.int .i64 wk) ∧ w'.cell? ⟨b, 2, none⟩ = some (.int .i64 1) ∧ w'.cell? ⟨b, 3, none⟩ = some (.int .i64 0) ∧ w'.cell? ⟨b, 4, none⟩ = some (.int .i64 0) ∧ w'.cell? ⟨b, 5, none⟩ = some (.int .i64 0) ∧ w'.cell? ⟨b, 6, none⟩ = some (.int .i64 0) ∧ w'.cell? ⟨b, 7, none⟩ = some (.int .i64 0) ∧ w'.cell? ⟨b, 8, none⟩ = some (.int .i64 0) ∧ w'.cell? ⟨b, 9, none⟩ = some (.int .i64 0) ∧ w'.cell? ⟨b, 10, none⟩ = some (.bool false) ∧ w'.cell? ⟨b, 11, none⟩ = some (.int .i64 er))
    (first | exact ⟨e0, e1, e2, e3, e4, e5, e6, e7, e8, e9, e10, e11⟩)
    (first
    | (go_at_call 261; refine (HBR.out _).mono ?_; rintro e w3 ⟨rfl, hb0⟩; have e0 := below_cell hb0 e0; have e1 := below_cell hb0 e1; have e2 := below_cell hb0 e2; have e3 := below_cell hb0 e3; have e4 := below_cell hb0 e4; have e5 := below_cell hb0 e5; have e6 := below_cell hb0 e6; have e7 := below_cell hb0 e7; have e8 := below_cell hb0 e8; have e9 := below_cell hb0 e9; have e10 := below_cell hb0 e10; have e11 := below_cell hb0 e11; have hB3 : Below b w w3 := (by first | exact hB2.trans (hb0.mono (by rw [← hgb.out]; exact hB2.size)) | exact hB2.drew.trans (hb0.mono (by rw [← hgb.out]; exact hB2.size)))))
  all_goals
    go_wp2
    go_ret
    exact ⟨rfl, hgb.out ▸ (by first | exact hB3 | exact hB3.drew)⟩
end Go.Proofs.YtgemjjpmoejgdaaGreat
/- What a closure has captured; a step's contract with one count of steps ahead and behind; an event is noted. -/
namespace Go.Proofs.YtgemjjpmoejgdaaGreat
open Go.RowKit
set_option maxRecDepth 100000
set_option linter.unusedVariables false

/-- Blocks that are nobody's, and what they hold. -/
def Env (L : Lab) (w : World) (env : List (Nat × List Value)) : Prop := ∀ p ∈ env, L p.1 = 0 ∧ p.1 < w.heap.size ∧ ∀ i v, p.2[i]? = some v → w.cell? ⟨p.1, i, none⟩ = some v
theorem Env.ext {t : Nat} {L L' : Lab} {w w' : World} {env : List (Nat × List Value)} (h : Env L w env) (hx : Ext t L w L' w') : Env L' w' env := fun p hp =>
  ⟨(hx.lab _ (h p hp).2.1).trans (h p hp).1, Nat.lt_of_lt_of_le (h p hp).2.1 hx.size, fun i v hi => hx.cell0 ((h p hp).2.2 i v hi) (h p hp).1⟩
theorem Env.shr {L L' : Lab} {w w' : World} {env : List (Nat × List Value)} (h : Env L w env) (hx : Shr L w L' w') : Env L' w' env := h.ext (hx.ext 0)
theorem Env.did {t : Nat} {L L' : Lab} {w w' : World} {env : List (Nat × List Value)} (h : Env L w env) (hx : Did t L w L' w') : Env L' w' env := fun p hp =>
  ⟨(hx.lab _ (h p hp).2.1).trans (h p hp).1, Nat.lt_of_lt_of_le (h p hp).2.1 hx.size, fun i v hi => hx.cell0 ((h p hp).2.2 i v hi) (h p hp).1⟩
theorem Env.below {L : Lab} {w w' : World} {env : List (Nat × List Value)} (h : Env L w env) (hb : Below w.heap.size w w') : Env L w' env := h.shr (Shr.of_below hb L)
theorem Env.cell {L : Lab} {w : World} {env : List (Nat × List Value)} (h : Env L w env) (k i : Nat) {b : Nat} {vs : List Value} {v : Value} (hk : env[k]? = some (b, vs)) (hi : vs[i]? = some v) : w.cell? ⟨b, i, none⟩ = some v :=
  (h (b, vs) (List.mem_of_getElem? hk)).2.2 i v hi
theorem Env.cons {L : Lab} {w : World} {env : List (Nat × List Value)} {b : Nat} {vs : List Value} (h : Env L w env) (l : L b = 0) (hb : b < w.heap.size) (hc : ∀ i v, vs[i]? = some v → w.cell? ⟨b, i, none⟩ = some v) : Env L w ((b, vs) :: env) := by
  intro p hp
  rcases List.mem_cons.1 hp with rfl | hp
  · exact ⟨l, hb, hc⟩
  · exact h p hp
theorem Env.nil (L : Lab) (w : World) : Env L w [] := fun p hp => by cases hp
theorem Env.sub {L : Lab} {w : World} {env env' : List (Nat × List Value)} (h : Env L w env) (hs : ∀ p ∈ env', p ∈ env) : Env L w env' := fun p hp => h p (hs p hp)
/-- A new block is nobody's. -/
theorem Env.alloc {L : Lab} {w : World} {env : List (Nat × List Value)} (h : Env L w env) (hn : ∀ b, w.heap.size ≤ b → L b = 0) (vs : List Value) (ty : TypeId) : Env L (w.alloc (.cells vs.toArray ty)) ((w.heap.size, vs) :: env) := by
  refine (h.below ((Below.refl _ _).alloc (Nat.le_refl _) _)).cons (hn _ (Nat.le_refl _)) (by simp) ?_
  intro i v hi
  rw [World.cell?_alloc_new]
  simpa using hi

theorem Env.alloc_at {L : Lab} {w : World} {env : List (Nat × List Value)} (h : Env L w env) (hn : ∀ b, w.heap.size ≤ b → L b = 0) (vs : List Value) (ty : TypeId) {b : Nat} (hb : b = w.heap.size) : Env L (w.alloc (.cells vs.toArray ty)) ((b, vs) :: env) := by
  subst hb
  exact h.alloc hn vs ty
/-- What a continuation does with what it is handed. -/
theorem ConSim.call {ρ : Type} {cf : Cf} {R : ρ → Arg → St → St × Option (K ρ)} {E : G} {t : Nat} {sh : Arg → Prop} {n : Nat} {L : Lab} {w : World} {g : FuncId} {cap : Array Value} {c : C ρ} (h : ConSim cf R E t sh n L w (.func (.func g) #[] cap) c) {a : Arg} (ha : sh a) {S : St} (hg : Good E L S w) (hbd : Bd (app cf R c a S).1) :
    Calls Tryz.prog g (a.vals ++ cap) w (Post cf R E t n L w (app cf R c a S)) := by
  obtain ⟨f, cap', e, hf, hk⟩ := h
  injection e with e1 e2 e3
  injection e1 with e1
  subst e1
  subst e3
  exact hk a L w S ha (Ext.refl t L w) hg hbd

section
variable {ρ : Type} {cf : Cf} {R : ρ → Arg → St → St × Option (K ρ)} {E : G} {t : Nat}
theorem load_at (hR : RMono R) {n : Nat} {i : Int} {vk : Value} {c : C ρ} {L : Lab} {w : World} {S : St} (hg : Good E L S w) (hk : ConSim cf R E t isW n L w vk c) :
    Calls Tryz.prog 91 #[.pointer (some ⟨E.a, 0, none⟩), .int .i64 i, vk] w (Post cf R E t n L w (S, some (.load i c))) := (load_any hR hg hk).mono fun _ _ h => Post.down cf R E t h
theorem store_at (hR : RMono R) {n : Nat} {i : Int} {v : Nat} {vk : Value} {c : C ρ} {L : Lab} {w : World} {S : St} (hv : v < 18446744073709551616) (hg : Good E L S w) (hk : ConSim cf R E t isU n L w vk c) :
    Calls Tryz.prog 110 #[.pointer (some ⟨E.a, 0, none⟩), .int .i64 i, .int .u64 v, vk] w (Post cf R E t n L w (S, some (.store i v c))) := (store_any hR hv hg hk).mono fun _ _ h => Post.down cf R E t h
theorem idle_at {n : Nat} {vk : Value} {c : C ρ} {L : Lab} {w : World} {S : St} (hg : Good E L S w) (hk : ConSim cf R E t isU n L w vk c) :
    Calls Tryz.prog 88 #[vk] w (Post cf R E t n L w (S, some (.idle c))) := (idle_any hg hk).mono fun _ _ h => Post.down cf R E t h
theorem stk_nodes (hok : E.cf.Ok) : StkOk E 155 (Stk.nodes.link E.cf) := ⟨enters_of Tryz.func155 (by kernel_rfl) rfl, fun i W h => plan_NodeLink hok E.p i W h⟩
theorem stk_tickets (hok : E.cf.Ok) : StkOk E 100 (Stk.tickets.link E.cf) := ⟨enters_of Tryz.func100 (by kernel_rfl) rfl, fun i W h => plan_TicketLink hok E.p i W h⟩
theorem stk_box (hok : E.cf.Ok) : StkOk E 100 E.cf.ticketLink := stk_tickets hok
theorem pop_nodes (hR : RMono R) {vk : Value} {c : C ρ} {m : Nat} {L : Lab} {w : World} {S : St} (hg : Good E L S w) (hk : ConSim E.cf R E t isPop m L w vk c) :
    Calls Tryz.prog 25 #[nodesVal E, vk] w (Post E.cf R E t m L w (S, some (popK .nodes c))) := (pop_any hR (stk_nodes hg.ok) m L w S hg hk).mono fun _ _ h => Post.down E.cf R E t h
theorem pop_tickets (hR : RMono R) {vk : Value} {c : C ρ} {m : Nat} {L : Lab} {w : World} {S : St} (hg : Good E L S w) (hk : ConSim E.cf R E t isPop m L w vk c) :
    Calls Tryz.prog 25 #[ticketsVal E, vk] w (Post E.cf R E t m L w (S, some (popK .tickets c))) := (pop_any hR (stk_tickets hg.ok) m L w S hg hk).mono fun _ _ h => Post.down E.cf R E t h
theorem push_nodes (hR : RMono R) {i : Int} {vk : Value} {c : C ρ} {m : Nat} {L : Lab} {w : World} {S : St} (hg : Good E L S w) (hk : ConSim E.cf R E t isU m L w vk c) :
    Calls Tryz.prog 159 #[nodesVal E, .int .i64 i, vk] w (Post E.cf R E t m L w (S, some (pushK .nodes i c))) := (push_any hR (stk_nodes hg.ok) m L w S hg hk).mono fun _ _ h => Post.down E.cf R E t h
theorem write_at (hR : RMono R) {n : Nat} {tt g v nd d : Int} {vk : Value} {c : C ρ} {L : Lab} {w : World} {S : St} (hg : Good E L S w) (hgb : g < 9223372036854775808) (hvb : v < 9223372036854775808) (hnb : nd < 9223372036854775808) (hk : ConSim E.cf R E t isU n L w vk c) :
    Calls Tryz.prog 28 #[.pointer (some ⟨E.k, 0, none⟩), .int .i64 tt, .agg #[.int .i64 g, .int .i64 v, .int .i64 nd], .int .i64 d, vk] w (Post E.cf R E t n L w (S, some (writeK E.cf tt g v nd d c))) := (write_any hR hg hgb hvb hnb hk).mono fun _ _ h => Post.down E.cf R E t (Post.down E.cf R E t h)
end
section
variable {ρ : Type} {R0 : ρ → Arg → St → St × Option (K (PR ρ))} {E : G} {t : Nat}
theorem put_at (hR : RMono (prApp E.cf R0)) {s tk : Int} {vk : Value} {k : PR ρ} {m : Nat} {L : Lab} {w : World} {S : St} (hg : Good E L S w) (hk : ConSim E.cf (prApp E.cf R0) E t isU m L w vk (.ret k)) :
    Calls Tryz.prog 31 #[boxVal E s, .int .i64 tk, vk] w (Post E.cf (prApp E.cf R0) E t m L w (S, some (putK E.cf s tk k))) := (put_any hR (stk_box hg.ok) m L w S hg hk).mono fun _ _ h => Post.down E.cf (prApp E.cf R0) E t h
end

set_option maxHeartbeats 1000000 in
theorem core_note_any {E : G} {L : Lab} {S : St} {w : World} (hg : Good E L S w) (hn : S.log.length ≤ 1099511627775) (kind worker op hn' hgn nn ng time arg user err : Int) (yes : Bool)
    (hR : ∀ w, Calls Tryz.prog 235 #[.agg #[.int .i64 kind, .int .i64 worker, .int .i64 op, .int .i64 hn', .int .i64 hgn, .int .i64 nn, .int .i64 ng, .int .i64 time, .int .i64 arg, .int .i64 user, .bool yes, .int .i64 err]] w fun e w' => e = .returned (.bool true) ∧ Below w.heap.size w w') :
    Calls Tryz.prog 82 #[.pointer (some ⟨E.k, 0, none⟩), .agg #[.int .i64 kind, .int .i64 worker, .int .i64 op, .int .i64 hn', .int .i64 hgn, .int .i64 nn, .int .i64 ng, .int .i64 time, .int .i64 arg, .int .i64 user, .bool yes, .int .i64 err]] w fun e w' => ∃ L', e = .returned (.int .i64 0) ∧
      Noted E L S w ⟨kind, worker, op, hn', hgn, nn, ng, time, arg, user, yes, err⟩ L' w' := by
  have k0 := hg.k0
  have lk := cell_lt k0
  have HG := Go.Lib.hid hg
  have HR := Go.Lib.hid hR
  clear hg hR
  go_enter Tryz.func82, Tryz.ntmps82
  go_wp2
  have e0 : (w.alloc (.cells #[.int .i64 kind, .int .i64 worker, .int .i64 op, .int .i64 hn', .int .i64 hgn, .int .i64 nn, .int .i64 ng, .int .i64 time, .int .i64 arg, .int .i64 user, .bool yes, .int .i64 err] 101)).cell? ⟨w.heap.size, 0, none⟩ = some (.int .i64 kind) := by go_simp
  have e1 : (w.alloc (.cells #[.int .i64 kind, .int .i64 worker, .int .i64 op, .int .i64 hn', .int .i64 hgn, .int .i64 nn, .int .i64 ng, .int .i64 time, .int .i64 arg, .int .i64 user, .bool yes, .int .i64 err] 101)).cell? ⟨w.heap.size, 1, none⟩ = some (.int .i64 worker) := by go_simp
  have e2 : (w.alloc (.cells #[.int .i64 kind, .int .i64 worker, .int .i64 op, .int .i64 hn', .int .i64 hgn, .int .i64 nn, .int .i64 ng, .int .i64 time, .int .i64 arg, .int .i64 user, .bool yes, .int .i64 err] 101)).cell? ⟨w.heap.size, 2, none⟩ = some (.int .i64 op) := by go_simp
  have e3 : (w.alloc (.cells #[.int .i64 kind, .int .i64 worker, .int .i64 op, .int .i64 hn', .int .i64 hgn, .int .i64 nn, .int .i64 ng, .int .i64 time, .int .i64 arg, .int .i64 user, .bool yes, .int .i64 err] 101)).cell? ⟨w.heap.size, 3, none⟩ = some (.int .i64 hn') := by go_simp
  have e4 : (w.alloc (.cells #[.int .i64 kind, .int .i64 worker, .int .i64 op, .int .i64 hn', .int .i64 hgn, .int .i64 nn, .int .i64 ng, .int .i64 time, .int .i64 arg, .int .i64 user, .bool yes, .int .i64 err] 101)).cell? ⟨w.heap.size, 4, none⟩ = some (.int .i64 hgn) := by go_simp
  have e5 : (w.alloc (.cells #[.int .i64 kind, .int .i64 worker, .int .i64 op, .int .i64 hn', .int .i64 hgn, .int .i64 nn, .int .i64 ng, .int .i64 time, .int .i64 arg, .int .i64 user, .bool yes, .int .i64 err] 101)).cell? ⟨w.heap.size, 5, none⟩ = some (.int .i64 nn) := by go_simp
  have e6 : (w.alloc (.cells #[.int .i64 kind, .int .i64 worker, .int .i64 op, .int .i64 hn', .int .i64 hgn, .int .i64 nn, .int .i64 ng, .int .i64 time, .int .i64 arg, .int .i64 user, .bool yes, .int .i64 err] 101)).cell? ⟨w.heap.size, 6, none⟩ = some (.int .i64 ng) := by go_simp
  have e7 : (w.alloc (.cells #[.int .i64 kind, .int .i64 worker, .int .i64 op, .int .i64 hn', .int .i64 hgn, .int .i64 nn, .int .i64 ng, .int .i64 time, .int .i64 arg, .int .i64 user, .bool yes, .int .i64 err] 101)).cell? ⟨w.heap.size, 7, none⟩ = some (.int .i64 time) := by go_simp
  have e8 : (w.alloc (.cells #[.int .i64 kind, .int .i64 worker, .int .i64 op, .int .i64 hn', .int .i64 hgn, .int .i64 nn, .int .i64 ng, .int .i64 time, .int .i64 arg, .int .i64 user, .bool yes, .int .i64 err] 101)).cell? ⟨w.heap.size, 8, none⟩ = some (.int .i64 arg) := by go_simp
  have e9 : (w.alloc (.cells #[.int .i64 kind, .int .i64 worker, .int .i64 op, .int .i64 hn', .int .i64 hgn, .int .i64 nn, .int .i64 ng, .int .i64 time, .int .i64 arg, .int .i64 user, .bool yes, .int .i64 err] 101)).cell? ⟨w.heap.size, 9, none⟩ = some (.int .i64 user) := by go_simp
  have e10 : (w.alloc (.cells #[.int .i64 kind, .int .i64 worker, .int .i64 op, .int .i64 hn', .int .i64 hgn, .int .i64 nn, .int .i64 ng, .int .i64 time, .int .i64 arg, .int .i64 user, .bool yes, .int .i64 err] 101)).cell? ⟨w.heap.size, 10, none⟩ = some (.bool yes) := by go_simp
  have e11 : (w.alloc (.cells #[.int .i64 kind, .int .i64 worker, .int .i64 op, .int .i64 hn', .int .i64 hgn, .int .i64 nn, .int .i64 ng, .int .i64 time, .int .i64 arg, .int .i64 user, .bool yes, .int .i64 err] 101)).cell? ⟨w.heap.size, 11, none⟩ = some (.int .i64 err) := by go_simp
  have hb : Below w.heap.size w (w.alloc (.cells #[.int .i64 kind, .int .i64 worker, .int .i64 op, .int .i64 hn', .int .i64 hgn, .int .i64 nn, .int .i64 ng, .int .i64 time, .int .i64 arg, .int .i64 user, .bool yes, .int .i64 err] 101)) := (Below.refl _ _).alloc (Nat.le_refl _) _
  generalize (w.alloc (.cells #[.int .i64 kind, .int .i64 worker, .int .i64 op, .int .i64 hn', .int .i64 hgn, .int .i64 nn, .int .i64 ng, .int .i64 time, .int .i64 arg, .int .i64 user, .bool yes, .int .i64 err] 101)) = W at *
  go_still_tail 4, (by kernel_rfl)
  change wpList _ _ _ _ _ (World.drew _)
  replace hb := hb.drew
  generalize World.drew W = W2 at *
  go_wp2_with fail
  refine (log_add (HG.out.below hb) hn kind worker op hn' hgn nn ng time arg user err yes HR.out).mono ?_
  rintro e w2 ⟨L', rfl, hno⟩
  have HNO := Go.Lib.hid (hno.of_below hb)
  clear hno
  go_wp2
  go_ret
  exact ⟨L', rfl, HNO.out⟩
end Go.Proofs.YtgemjjpmoejgdaaGreat
