/- A Migrate, as code. -/
import Derived.Test.YtgemjjpmoejgdaaGreatHrs
namespace Go.Proofs.YtgemjjpmoejgdaaGreat
open Go.RowKit
set_option maxRecDepth 100000
set_option linter.unusedVariables false

section
variable {ρ : Type} {R0 : ρ → Arg → St → St × Option (K (PR ρ))} {E : G} {t : Nat}
/-- What 'armed' is handed: it is told the deadline, and whether the handle is armed. -/
def ArmSim (R0 : ρ → Arg → St → St × Option (K (PR ρ))) (E : G) (t : Nat) (g : Int) (m : Nat) (L : Lab) (w : World) (v : Value) (r : PR ρ) : Prop :=
  ∃ f cap, v = .func (.func f) #[] cap ∧ EntersF f ∧ ∀ x L' w' S, x < 18446744073709551616 → Ext t L w L' w' → Good E L' S w' → Bd (prApp E.cf R0 r (.w x) S).1 →
    Calls Tryz.prog f (#[.int .i64 (part x 2 30 : Nat), .bool (armedW x g)] ++ cap) w' (Post E.cf (prApp E.cf R0) E t m L' w' (prApp E.cf R0 r (.w x) S))
theorem ArmSim.ext {g : Int} {m : Nat} {L L' : Lab} {w w' : World} {v : Value} {r : PR ρ} (h : ArmSim R0 E t g m L w v r) (hx : Ext t L w L' w') : ArmSim R0 E t g m L' w' v r := by
  obtain ⟨f, cap, h1, h2, h3⟩ := h
  exact ⟨f, cap, h1, h2, fun x L2 w2 S h4 hx2 hg hb => h3 x L2 w2 S h4 (hx.trans hx2) hg hb⟩
end
end Go.Proofs.YtgemjjpmoejgdaaGreat
/- Migrate, as code: what is behind the first step. -/
namespace Go.Proofs.YtgemjjpmoejgdaaGreat
open Go.RowKit
set_option maxRecDepth 100000
set_option linter.unusedVariables false

section
variable {ρ : Type} {R0 : ρ → Arg → St → St × Option (K (PR ρ))} {E : G} {t : Nat}
end
end Go.Proofs.YtgemjjpmoejgdaaGreat
/- Migrate, as code. -/
namespace Go.Proofs.YtgemjjpmoejgdaaGreat
open Go.RowKit
set_option maxRecDepth 100000
set_option linter.unusedVariables false

section
variable {ρ : Type} {R0 : ρ → Arg → St → St × Option (K (PR ρ))} {E : G} {t : Nat}
end
end Go.Proofs.YtgemjjpmoejgdaaGreat
/- What does a deed of a Start, a Cancel, a Rearm or a Migrate, and goes on with an event. -/
namespace Go.Proofs.YtgemjjpmoejgdaaGreat
open Go.RowKit
set_option maxRecDepth 100000
set_option linter.unusedVariables false

/-- What is to be returned. -/
def isEv : Arg → Prop | .ev e => e.kind = 0 ∧ e.worker = 0 ∧ e.op = 0 ∧ e.hn = 0 ∧ e.hg = 0 ∧ e.arg = 0 ∧ e.user = 0 ∧ (0 ≤ e.nn ∧ e.nn ≤ 4294967294) ∧ (0 ≤ e.ng ∧ e.ng ≤ 4294967295) ∧ (-1 ≤ e.time ∧ e.time ≤ 1099511627776) ∧ (0 ≤ e.err ∧ e.err ≤ 100) | _ => False
section
variable {ρ : Type} (V : ρ → Ev → St → St × Option (K (PR ρ)))
/-- A caller whose continuations take events: what the makers of events hand on. -/
def evU : ρ → Arg → St → St × Option (K (PR ρ))
  | r, .he n g e, S => V r { nn := n, ng := g, err := e } S
  | r, .b y, S => V r { yes := y } S
  | r, .e x, S => V r { err := x } S
  | r, .ev x, S => V r x S
  | _, _, S => (S, none)
theorem evU_mono (hV : ∀ r e S, S.cnt ≤ (V r e S).1.cnt ∧ S.log.length ≤ (V r e S).1.log.length) : ∀ (r : ρ) (a : Arg) (S : St), S.cnt ≤ (evU V r a S).1.cnt ∧ S.log.length ≤ (evU V r a S).1.log.length := by
  intro r a S
  cases a <;> first | exact hV _ _ _ | exact ⟨Nat.le_refl _, Nat.le_refl _⟩
theorem evU_he (r : ρ) (n g e : Int) (S : St) : evU V r (.he n g e) S = V r { nn := n, ng := g, err := e } S := rfl
theorem evU_b (r : ρ) (y : Bool) (S : St) : evU V r (.b y) S = V r { yes := y } S := rfl
theorem evU_ev (r : ρ) (x : Ev) (S : St) : evU V r (.ev x) S = V r x S := rfl
end
/-- A deed's values. -/
structure DeedR where
  op : Int
  hn : Int
  hg : Int
  time : Int
  arg : Int
  user : Int
def DeedR.cells (d : DeedR) : List Value := [.int .i64 d.op, .int .i64 d.hn, .int .i64 d.hg, .int .i64 d.time, .int .i64 d.arg, .int .i64 d.user]
section
variable {ρ : Type}
def doesK (cf : Cf) (w : Int) (d : DeedR) (k : PR ρ) : K (PR ρ) := if d.op = 1 then startK cf w d.time d.arg d.user k else if d.op = 3 then rearmK cf w d.hn d.hg d.time k else cancelK cf w d.hn d.hg k
end
section
variable {ρ : Type} {V : ρ → Ev → St → St × Option (K (PR ρ))} {E : G} {t : Nat}
set_option maxHeartbeats 1000000 in
theorem does1_con {m : Nat} {vk : Value} {r : ρ} {L : Lab} {w : World} {bt : Nat} (henv : Env L w [(bt, [vk])]) (hk : ConSim E.cf (prApp E.cf (evU V)) E t isEv m L w vk (.ret (.user r))) :
    ConSim E.cf (prApp E.cf (evU V)) E t isHe m L w (.func (.func 150) #[] #[.pointer (some ⟨bt, 0, none⟩)]) (.ret (.user r)) := by
  refine ⟨_, _, rfl, enters_of Tryz.func150 (by kernel_rfl) rfl, ?_⟩
  intro a L' w' S ha hx hg hbd
  cases a with
  | he n g e =>
    rw [app_ret, prApp_user, evU_he] at hbd ⊢
    have henv' := henv.ext hx
    have hk' := ConSim.ext E.cf (prApp E.cf (evU V)) E t hk hx
    clear henv hk hx
    have hb : Below w'.heap.size w' (w'.alloc (.cells #[.int .i64 n, .int .i64 g] 46)) := (Below.refl _ _).alloc (Nat.le_refl _) _
    obtain ⟨gk, ck, rfl, hgf, _⟩ := id hk'
    have hen : ∀ (args : Array Value) (w : World), (callFunc gk args).run Tryz.prog w = .ok (.enter gk args) w := hgf
    have HC : Hid (Calls Tryz.prog gk (Arg.vals (.ev { nn := n, ng := g, err := e }) ++ ck) (w'.alloc (.cells #[.int .i64 n, .int .i64 g] 46)) (Post E.cf (prApp E.cf (evU V)) E t m L' (w'.alloc (.cells #[.int .i64 n, .int .i64 g] 46)) (V r { nn := n, ng := g, err := e } S))) := Go.Lib.hid (by
      have := (ConSim.ext E.cf (prApp E.cf (evU V)) E t hk' (below_ext hb t L')).call (a := .ev { nn := n, ng := g, err := e }) ⟨rfl, rfl, rfl, rfl, rfl, rfl, rfl, ha.1, ha.2.1, ⟨by show (-1 : Int) ≤ 0; decide, by show (0 : Int) ≤ 1099511627776; decide⟩, ha.2.2⟩ (hg.below hb) (by rw [app_ret, prApp_user, evU_ev]; exact hbd)
      rw [app_ret, prApp_user, evU_ev] at this
      exact this)
    have HD := Go.Lib.hid (below_did hb t L')
    have q0 : (w'.alloc (.cells #[.int .i64 n, .int .i64 g] 46)).cell? ⟨bt, 0, none⟩ = some (.func (.func gk) #[] ck) := below_cell hb (henv'.cell 0 0 rfl rfl)
    show Calls _ _ #[_, _, _] _ _
    clear hbd hg henv' hk' hgf hb ha
    generalize V r { nn := n, ng := g, err := e } S = rr at *
    go_enter Tryz.func150, Tryz.ntmps150
    go_wp2_with (go_at_fn gk; refine (HC.out).mono ?_; rintro e w9 ⟨v2, L9, rfl, hd2, hg2, hc2⟩)
    go_ret
    exact ⟨v2, L9, rfl, HD.out.trans hd2, hg2, hc2⟩
  | _ => exact absurd ha (by simp [isHe])
set_option maxHeartbeats 1000000 in
theorem does2_con {m : Nat} {vk : Value} {r : ρ} {L : Lab} {w : World} {bt : Nat} (henv : Env L w [(bt, [vk])]) (hk : ConSim E.cf (prApp E.cf (evU V)) E t isEv m L w vk (.ret (.user r))) :
    ConSim E.cf (prApp E.cf (evU V)) E t isB m L w (.func (.func 151) #[] #[.pointer (some ⟨bt, 0, none⟩)]) (.ret (.user r)) := by
  refine ⟨_, _, rfl, enters_of Tryz.func151 (by kernel_rfl) rfl, ?_⟩
  intro a L' w' S ha hx hg hbd
  cases a with
  | b y =>
    rw [app_ret, prApp_user, evU_b] at hbd ⊢
    have henv' := henv.ext hx
    have hk' := ConSim.ext E.cf (prApp E.cf (evU V)) E t hk hx
    clear henv hk hx
    obtain ⟨gk, ck, rfl, hgf, _⟩ := id hk'
    have hen : ∀ (args : Array Value) (w : World), (callFunc gk args).run Tryz.prog w = .ok (.enter gk args) w := hgf
    have HC : Hid (Calls Tryz.prog gk (Arg.vals (.ev { yes := y }) ++ ck) w' (Post E.cf (prApp E.cf (evU V)) E t m L' w' (V r { yes := y } S))) := Go.Lib.hid (by
      have := hk'.call (a := .ev { yes := y }) ⟨rfl, rfl, rfl, rfl, rfl, rfl, rfl, ⟨by show (0 : Int) ≤ 0; decide, by show (0 : Int) ≤ 4294967294; decide⟩, ⟨by show (0 : Int) ≤ 0; decide, by show (0 : Int) ≤ 4294967295; decide⟩, ⟨by show (-1 : Int) ≤ 0; decide, by show (0 : Int) ≤ 1099511627776; decide⟩, ⟨by show (0 : Int) ≤ 0; decide, by show (0 : Int) ≤ 100; decide⟩⟩ hg (by rw [app_ret, prApp_user, evU_ev]; exact hbd)
      rw [app_ret, prApp_user, evU_ev] at this
      exact this)
    have q0 : w'.cell? ⟨bt, 0, none⟩ = some (.func (.func gk) #[] ck) := henv'.cell 0 0 rfl rfl
    show Calls _ _ #[_, _] _ _
    clear hbd hg henv' hk' hgf ha
    generalize V r { yes := y } S = rr at *
    go_enter Tryz.func151, Tryz.ntmps151
    go_wp2_with (go_at_fn gk; refine (HC.out).mono ?_; rintro e w9 ⟨v2, L9, rfl, hd2, hg2, hc2⟩)
    go_ret
    exact ⟨v2, L9, rfl, hd2, hg2, hc2⟩
  | _ => exact absurd ha (by simp [isB])
theorem law12_Of (n g : Int) (w : World) : Calls Tryz.prog 55 #[.agg #[.int .i64 n, .int .i64 g]] w fun e w' => e = .returned (.agg #[.int .i64 n, .int .i64 g]) ∧ Below w.heap.size w w' := by
  go_enter Tryz.func55, Tryz.ntmps55
  go_wp2
  refine bodyPost_ret (v := .agg #[.int .i64 n, .int .i64 g]) (by simp [results, Tryz.results55, go_sem]) rfl ⟨rfl, ?_⟩
  exact ((Below.refl _ _).alloc (Nat.le_refl _) _).alloc (by simp) _
set_option maxHeartbeats 4000000 in
theorem does_a (hV : ∀ r e S, S.cnt ≤ (V r e S).1.cnt ∧ S.log.length ≤ (V r e S).1.log.length) {m : Nat} {wk op hn hgn tm arg us : Int} {vk : Value} {r : ρ} {L : Lab} {w : World} {S : St} (hg : Good E L S w) (hk : ConSim E.cf (prApp E.cf (evU V)) E t isEv m L w vk (.ret (.user r))) (hw : 0 ≤ wk) (htu : tm < 9223372036854775808) (hop : op = 1) :
    Calls Tryz.prog 53 #[.pointer (some ⟨E.k, 0, none⟩), .int .i64 wk, .agg #[.int .i64 op, .int .i64 hn, .int .i64 hgn, .int .i64 tm, .int .i64 arg, .int .i64 us], vk] w (Post E.cf (prApp E.cf (evU V)) E t m L w (S, some (startK E.cf wk tm arg us (.user r)))) := by
  have hR : RMono (prApp E.cf (evU V)) := prApp_mono E.cf (evU V) (evU_mono V hV)
  have henv := Env.nil L w
  subst hop
  have HD := Go.Lib.hid (Did.refl t L w)
  have HG := Go.Lib.hid hg
  have HE := Go.Lib.hid henv
  obtain ⟨ghk, chk, hvhk, hgfhk, _⟩ := id hk
  subst hvhk
  have henhk : ∀ (args : Array Value) (w : World), (callFunc ghk args).run Tryz.prog w = .ok (.enter ghk args) w := hgfhk
  have Hhk := Go.Lib.hid hk
  clear hg henv hk hgfhk
  have hb0 : Below w.heap.size w ((w.alloc (.cells #[.int .i64 1, .int .i64 hn, .int .i64 hgn, .int .i64 tm, .int .i64 arg, .int .i64 us] 38)).alloc (.cells #[.func (.func ghk) #[] chk] 102)) := (((Below.refl _ _).alloc (Nat.le_refl _) _).alloc (by first | (simp; done) | (simp; omega)) _)
  have HE0 : Hid (Env L ((w.alloc (.cells #[.int .i64 1, .int .i64 hn, .int .i64 hgn, .int .i64 tm, .int .i64 arg, .int .i64 us] 38)).alloc (.cells #[.func (.func ghk) #[] chk] 102)) [(w.heap.size + 1, [.func (.func ghk) #[] chk]), (w.heap.size, [.int .i64 1, .int .i64 hn, .int .i64 hgn, .int .i64 tm, .int .i64 arg, .int .i64 us])]) := Go.Lib.hid (Env.alloc_at (Env.alloc_at HE.out (fun b hb => HG.out.new b (by first | exact hb | (simp at hb; omega))) [.int .i64 1, .int .i64 hn, .int .i64 hgn, .int .i64 tm, .int .i64 arg, .int .i64 us] 38 (b := w.heap.size) (by first | rfl | (simp; done) | (simp; omega))) (fun b hb => HG.out.new b (by first | exact hb | (simp at hb; omega))) [.func (.func ghk) #[] chk] 102 (b := w.heap.size + 1) (by first | rfl | (simp; done) | (simp; omega)))
  replace HG := Go.Lib.hid (HG.out.below hb0)
  replace HE := Go.Lib.hid (HE0.out)
  replace Hhk := Go.Lib.hid (ConSim.ext E.cf (prApp E.cf (evU V)) E t Hhk.out (below_ext hb0 t L))
  replace HD := Go.Lib.hid (HD.out.trans (below_did hb0 t L))
  clear hb0 HE0
  have q0_0 : ((w.alloc (.cells #[.int .i64 1, .int .i64 hn, .int .i64 hgn, .int .i64 tm, .int .i64 arg, .int .i64 us] 38)).alloc (.cells #[.func (.func ghk) #[] chk] 102)).cell? ⟨w.heap.size + 1, 0, none⟩ = some (.func (.func ghk) #[] chk) := HE.out.cell 0 0 rfl rfl
  have q1_0 : ((w.alloc (.cells #[.int .i64 1, .int .i64 hn, .int .i64 hgn, .int .i64 tm, .int .i64 arg, .int .i64 us] 38)).alloc (.cells #[.func (.func ghk) #[] chk] 102)).cell? ⟨w.heap.size, 0, none⟩ = some (.int .i64 1) := HE.out.cell 1 0 rfl rfl
  have q1_1 : ((w.alloc (.cells #[.int .i64 1, .int .i64 hn, .int .i64 hgn, .int .i64 tm, .int .i64 arg, .int .i64 us] 38)).alloc (.cells #[.func (.func ghk) #[] chk] 102)).cell? ⟨w.heap.size, 1, none⟩ = some (.int .i64 hn) := HE.out.cell 1 1 rfl rfl
  have q1_2 : ((w.alloc (.cells #[.int .i64 1, .int .i64 hn, .int .i64 hgn, .int .i64 tm, .int .i64 arg, .int .i64 us] 38)).alloc (.cells #[.func (.func ghk) #[] chk] 102)).cell? ⟨w.heap.size, 2, none⟩ = some (.int .i64 hgn) := HE.out.cell 1 2 rfl rfl
  have q1_3 : ((w.alloc (.cells #[.int .i64 1, .int .i64 hn, .int .i64 hgn, .int .i64 tm, .int .i64 arg, .int .i64 us] 38)).alloc (.cells #[.func (.func ghk) #[] chk] 102)).cell? ⟨w.heap.size, 3, none⟩ = some (.int .i64 tm) := HE.out.cell 1 3 rfl rfl
  have q1_4 : ((w.alloc (.cells #[.int .i64 1, .int .i64 hn, .int .i64 hgn, .int .i64 tm, .int .i64 arg, .int .i64 us] 38)).alloc (.cells #[.func (.func ghk) #[] chk] 102)).cell? ⟨w.heap.size, 4, none⟩ = some (.int .i64 arg) := HE.out.cell 1 4 rfl rfl
  have q1_5 : ((w.alloc (.cells #[.int .i64 1, .int .i64 hn, .int .i64 hgn, .int .i64 tm, .int .i64 arg, .int .i64 us] 38)).alloc (.cells #[.func (.func ghk) #[] chk] 102)).cell? ⟨w.heap.size, 5, none⟩ = some (.int .i64 us) := HE.out.cell 1 5 rfl rfl
  go_enter Tryz.func53, Tryz.ntmps53
  go_wp2_with fail
  generalize ((w.alloc (.cells #[.int .i64 1, .int .i64 hn, .int .i64 hgn, .int .i64 tm, .int .i64 arg, .int .i64 us] 38)).alloc (.cells #[.func (.func ghk) #[] chk] 102)) = w0 at *
  refine (law12_Of hn hgn _).mono ?_
  rintro e w1 ⟨rfl, hb⟩
  clear q0_0 q1_0 q1_1 q1_2 q1_3 q1_4 q1_5
  replace HG := Go.Lib.hid (HG.out.below hb)
  replace HE := Go.Lib.hid (HE.out.ext (below_ext hb t L))
  replace Hhk := Go.Lib.hid (ConSim.ext E.cf (prApp E.cf (evU V)) E t Hhk.out (below_ext hb t L))
  replace HD := Go.Lib.hid (HD.out.trans (below_did hb t L))
  clear hb
  have q0_0 : w1.cell? ⟨w.heap.size + 1, 0, none⟩ = some (.func (.func ghk) #[] chk) := HE.out.cell 0 0 rfl rfl
  have q1_0 : w1.cell? ⟨w.heap.size, 0, none⟩ = some (.int .i64 1) := HE.out.cell 1 0 rfl rfl
  have q1_1 : w1.cell? ⟨w.heap.size, 1, none⟩ = some (.int .i64 hn) := HE.out.cell 1 1 rfl rfl
  have q1_2 : w1.cell? ⟨w.heap.size, 2, none⟩ = some (.int .i64 hgn) := HE.out.cell 1 2 rfl rfl
  have q1_3 : w1.cell? ⟨w.heap.size, 3, none⟩ = some (.int .i64 tm) := HE.out.cell 1 3 rfl rfl
  have q1_4 : w1.cell? ⟨w.heap.size, 4, none⟩ = some (.int .i64 arg) := HE.out.cell 1 4 rfl rfl
  have q1_5 : w1.cell? ⟨w.heap.size, 5, none⟩ = some (.int .i64 us) := HE.out.cell 1 5 rfl rfl
  have hb : Below w1.heap.size w1 (w1.alloc (.cells #[.int .i64 hn, .int .i64 hgn] 46)) := (Below.refl _ _).alloc (Nat.le_refl _) _
  have HE0 := Go.Lib.hid (Env.alloc_at HE.out (fun b hb => HG.out.new b hb) [.int .i64 hn, .int .i64 hgn] 46 (b := w1.heap.size) rfl)
  have n0_0 : (w1.alloc (.cells #[.int .i64 hn, .int .i64 hgn] 46)).cell? ⟨w.heap.size + 1, 0, none⟩ = some (.func (.func ghk) #[] chk) := below_cell hb q0_0
  have n1_0 : (w1.alloc (.cells #[.int .i64 hn, .int .i64 hgn] 46)).cell? ⟨w.heap.size, 0, none⟩ = some (.int .i64 1) := below_cell hb q1_0
  have n1_1 : (w1.alloc (.cells #[.int .i64 hn, .int .i64 hgn] 46)).cell? ⟨w.heap.size, 1, none⟩ = some (.int .i64 hn) := below_cell hb q1_1
  have n1_2 : (w1.alloc (.cells #[.int .i64 hn, .int .i64 hgn] 46)).cell? ⟨w.heap.size, 2, none⟩ = some (.int .i64 hgn) := below_cell hb q1_2
  have n1_3 : (w1.alloc (.cells #[.int .i64 hn, .int .i64 hgn] 46)).cell? ⟨w.heap.size, 3, none⟩ = some (.int .i64 tm) := below_cell hb q1_3
  have n1_4 : (w1.alloc (.cells #[.int .i64 hn, .int .i64 hgn] 46)).cell? ⟨w.heap.size, 4, none⟩ = some (.int .i64 arg) := below_cell hb q1_4
  have n1_5 : (w1.alloc (.cells #[.int .i64 hn, .int .i64 hgn] 46)).cell? ⟨w.heap.size, 5, none⟩ = some (.int .i64 us) := below_cell hb q1_5
  go_wp2_with fail
  clear n0_0 n1_0 n1_1 n1_2 n1_3 n1_4 n1_5 q0_0 q1_0 q1_1 q1_2 q1_3 q1_4 q1_5
  generalize (w1.alloc (.cells #[.int .i64 hn, .int .i64 hgn] 46)) = w2 at *
  replace HG := Go.Lib.hid (HG.out.below hb)
  replace HE := Go.Lib.hid (HE0.out)
  replace Hhk := Go.Lib.hid (ConSim.ext E.cf (prApp E.cf (evU V)) E t Hhk.out (below_ext hb t L))
  replace HD := Go.Lib.hid (HD.out.trans (below_did hb t L))
  clear hb HE0
  have q0_0 : w2.cell? ⟨w1.heap.size, 0, none⟩ = some (.int .i64 hn) := HE.out.cell 0 0 rfl rfl
  have q0_1 : w2.cell? ⟨w1.heap.size, 1, none⟩ = some (.int .i64 hgn) := HE.out.cell 0 1 rfl rfl
  have q1_0 : w2.cell? ⟨w.heap.size + 1, 0, none⟩ = some (.func (.func ghk) #[] chk) := HE.out.cell 1 0 rfl rfl
  have q2_0 : w2.cell? ⟨w.heap.size, 0, none⟩ = some (.int .i64 1) := HE.out.cell 2 0 rfl rfl
  have q2_1 : w2.cell? ⟨w.heap.size, 1, none⟩ = some (.int .i64 hn) := HE.out.cell 2 1 rfl rfl
  have q2_2 : w2.cell? ⟨w.heap.size, 2, none⟩ = some (.int .i64 hgn) := HE.out.cell 2 2 rfl rfl
  have q2_3 : w2.cell? ⟨w.heap.size, 3, none⟩ = some (.int .i64 tm) := HE.out.cell 2 3 rfl rfl
  have q2_4 : w2.cell? ⟨w.heap.size, 4, none⟩ = some (.int .i64 arg) := HE.out.cell 2 4 rfl rfl
  have q2_5 : w2.cell? ⟨w.heap.size, 5, none⟩ = some (.int .i64 us) := HE.out.cell 2 5 rfl rfl
  refine (start_any (wk := wk) (ticks := tm) (shard := arg) (user := us) hR HG.out (does1_con (HE.out.sub (env' := [(w.heap.size + 1, [.func (.func ghk) #[] chk])]) (by simp)) Hhk.out) hw htu).mono ?_
  rintro e w9 ⟨v2, L9, rfl, hd2, hg2, hc2⟩
  go_wp2
  go_ret
  exact ⟨v2, L9, rfl, HD.out.trans hd2, hg2, hc2⟩
set_option maxHeartbeats 4000000 in
theorem does_b (hV : ∀ r e S, S.cnt ≤ (V r e S).1.cnt ∧ S.log.length ≤ (V r e S).1.log.length) {m : Nat} {wk op hn hgn tm arg us : Int} {vk : Value} {r : ρ} {L : Lab} {w : World} {S : St} (hg : Good E L S w) (hk : ConSim E.cf (prApp E.cf (evU V)) E t isEv m L w vk (.ret (.user r))) (hw : 0 ≤ wk) (htu : tm < 9223372036854775808) (hop : op = 3) :
    Calls Tryz.prog 53 #[.pointer (some ⟨E.k, 0, none⟩), .int .i64 wk, .agg #[.int .i64 op, .int .i64 hn, .int .i64 hgn, .int .i64 tm, .int .i64 arg, .int .i64 us], vk] w (Post E.cf (prApp E.cf (evU V)) E t m L w (S, some (rearmK E.cf wk hn hgn tm (.user r)))) := by
  have hR : RMono (prApp E.cf (evU V)) := prApp_mono E.cf (evU V) (evU_mono V hV)
  have henv := Env.nil L w
  subst hop
  have HD := Go.Lib.hid (Did.refl t L w)
  have HG := Go.Lib.hid hg
  have HE := Go.Lib.hid henv
  obtain ⟨ghk, chk, hvhk, hgfhk, _⟩ := id hk
  subst hvhk
  have henhk : ∀ (args : Array Value) (w : World), (callFunc ghk args).run Tryz.prog w = .ok (.enter ghk args) w := hgfhk
  have Hhk := Go.Lib.hid hk
  clear hg henv hk hgfhk
  have hb0 : Below w.heap.size w ((w.alloc (.cells #[.int .i64 3, .int .i64 hn, .int .i64 hgn, .int .i64 tm, .int .i64 arg, .int .i64 us] 38)).alloc (.cells #[.func (.func ghk) #[] chk] 102)) := (((Below.refl _ _).alloc (Nat.le_refl _) _).alloc (by first | (simp; done) | (simp; omega)) _)
  have HE0 : Hid (Env L ((w.alloc (.cells #[.int .i64 3, .int .i64 hn, .int .i64 hgn, .int .i64 tm, .int .i64 arg, .int .i64 us] 38)).alloc (.cells #[.func (.func ghk) #[] chk] 102)) [(w.heap.size + 1, [.func (.func ghk) #[] chk]), (w.heap.size, [.int .i64 3, .int .i64 hn, .int .i64 hgn, .int .i64 tm, .int .i64 arg, .int .i64 us])]) := Go.Lib.hid (Env.alloc_at (Env.alloc_at HE.out (fun b hb => HG.out.new b (by first | exact hb | (simp at hb; omega))) [.int .i64 3, .int .i64 hn, .int .i64 hgn, .int .i64 tm, .int .i64 arg, .int .i64 us] 38 (b := w.heap.size) (by first | rfl | (simp; done) | (simp; omega))) (fun b hb => HG.out.new b (by first | exact hb | (simp at hb; omega))) [.func (.func ghk) #[] chk] 102 (b := w.heap.size + 1) (by first | rfl | (simp; done) | (simp; omega)))
  replace HG := Go.Lib.hid (HG.out.below hb0)
  replace HE := Go.Lib.hid (HE0.out)
  replace Hhk := Go.Lib.hid (ConSim.ext E.cf (prApp E.cf (evU V)) E t Hhk.out (below_ext hb0 t L))
  replace HD := Go.Lib.hid (HD.out.trans (below_did hb0 t L))
  clear hb0 HE0
  have q0_0 : ((w.alloc (.cells #[.int .i64 3, .int .i64 hn, .int .i64 hgn, .int .i64 tm, .int .i64 arg, .int .i64 us] 38)).alloc (.cells #[.func (.func ghk) #[] chk] 102)).cell? ⟨w.heap.size + 1, 0, none⟩ = some (.func (.func ghk) #[] chk) := HE.out.cell 0 0 rfl rfl
  have q1_0 : ((w.alloc (.cells #[.int .i64 3, .int .i64 hn, .int .i64 hgn, .int .i64 tm, .int .i64 arg, .int .i64 us] 38)).alloc (.cells #[.func (.func ghk) #[] chk] 102)).cell? ⟨w.heap.size, 0, none⟩ = some (.int .i64 3) := HE.out.cell 1 0 rfl rfl
  have q1_1 : ((w.alloc (.cells #[.int .i64 3, .int .i64 hn, .int .i64 hgn, .int .i64 tm, .int .i64 arg, .int .i64 us] 38)).alloc (.cells #[.func (.func ghk) #[] chk] 102)).cell? ⟨w.heap.size, 1, none⟩ = some (.int .i64 hn) := HE.out.cell 1 1 rfl rfl
  have q1_2 : ((w.alloc (.cells #[.int .i64 3, .int .i64 hn, .int .i64 hgn, .int .i64 tm, .int .i64 arg, .int .i64 us] 38)).alloc (.cells #[.func (.func ghk) #[] chk] 102)).cell? ⟨w.heap.size, 2, none⟩ = some (.int .i64 hgn) := HE.out.cell 1 2 rfl rfl
  have q1_3 : ((w.alloc (.cells #[.int .i64 3, .int .i64 hn, .int .i64 hgn, .int .i64 tm, .int .i64 arg, .int .i64 us] 38)).alloc (.cells #[.func (.func ghk) #[] chk] 102)).cell? ⟨w.heap.size, 3, none⟩ = some (.int .i64 tm) := HE.out.cell 1 3 rfl rfl
  have q1_4 : ((w.alloc (.cells #[.int .i64 3, .int .i64 hn, .int .i64 hgn, .int .i64 tm, .int .i64 arg, .int .i64 us] 38)).alloc (.cells #[.func (.func ghk) #[] chk] 102)).cell? ⟨w.heap.size, 4, none⟩ = some (.int .i64 arg) := HE.out.cell 1 4 rfl rfl
  have q1_5 : ((w.alloc (.cells #[.int .i64 3, .int .i64 hn, .int .i64 hgn, .int .i64 tm, .int .i64 arg, .int .i64 us] 38)).alloc (.cells #[.func (.func ghk) #[] chk] 102)).cell? ⟨w.heap.size, 5, none⟩ = some (.int .i64 us) := HE.out.cell 1 5 rfl rfl
  go_enter Tryz.func53, Tryz.ntmps53
  go_wp2_with fail
  generalize ((w.alloc (.cells #[.int .i64 3, .int .i64 hn, .int .i64 hgn, .int .i64 tm, .int .i64 arg, .int .i64 us] 38)).alloc (.cells #[.func (.func ghk) #[] chk] 102)) = w0 at *
  refine (law12_Of hn hgn _).mono ?_
  rintro e w1 ⟨rfl, hb⟩
  clear q0_0 q1_0 q1_1 q1_2 q1_3 q1_4 q1_5
  replace HG := Go.Lib.hid (HG.out.below hb)
  replace HE := Go.Lib.hid (HE.out.ext (below_ext hb t L))
  replace Hhk := Go.Lib.hid (ConSim.ext E.cf (prApp E.cf (evU V)) E t Hhk.out (below_ext hb t L))
  replace HD := Go.Lib.hid (HD.out.trans (below_did hb t L))
  clear hb
  have q0_0 : w1.cell? ⟨w.heap.size + 1, 0, none⟩ = some (.func (.func ghk) #[] chk) := HE.out.cell 0 0 rfl rfl
  have q1_0 : w1.cell? ⟨w.heap.size, 0, none⟩ = some (.int .i64 3) := HE.out.cell 1 0 rfl rfl
  have q1_1 : w1.cell? ⟨w.heap.size, 1, none⟩ = some (.int .i64 hn) := HE.out.cell 1 1 rfl rfl
  have q1_2 : w1.cell? ⟨w.heap.size, 2, none⟩ = some (.int .i64 hgn) := HE.out.cell 1 2 rfl rfl
  have q1_3 : w1.cell? ⟨w.heap.size, 3, none⟩ = some (.int .i64 tm) := HE.out.cell 1 3 rfl rfl
  have q1_4 : w1.cell? ⟨w.heap.size, 4, none⟩ = some (.int .i64 arg) := HE.out.cell 1 4 rfl rfl
  have q1_5 : w1.cell? ⟨w.heap.size, 5, none⟩ = some (.int .i64 us) := HE.out.cell 1 5 rfl rfl
  have hb : Below w1.heap.size w1 (w1.alloc (.cells #[.int .i64 hn, .int .i64 hgn] 46)) := (Below.refl _ _).alloc (Nat.le_refl _) _
  have HE0 := Go.Lib.hid (Env.alloc_at HE.out (fun b hb => HG.out.new b hb) [.int .i64 hn, .int .i64 hgn] 46 (b := w1.heap.size) rfl)
  have n0_0 : (w1.alloc (.cells #[.int .i64 hn, .int .i64 hgn] 46)).cell? ⟨w.heap.size + 1, 0, none⟩ = some (.func (.func ghk) #[] chk) := below_cell hb q0_0
  have n1_0 : (w1.alloc (.cells #[.int .i64 hn, .int .i64 hgn] 46)).cell? ⟨w.heap.size, 0, none⟩ = some (.int .i64 3) := below_cell hb q1_0
  have n1_1 : (w1.alloc (.cells #[.int .i64 hn, .int .i64 hgn] 46)).cell? ⟨w.heap.size, 1, none⟩ = some (.int .i64 hn) := below_cell hb q1_1
  have n1_2 : (w1.alloc (.cells #[.int .i64 hn, .int .i64 hgn] 46)).cell? ⟨w.heap.size, 2, none⟩ = some (.int .i64 hgn) := below_cell hb q1_2
  have n1_3 : (w1.alloc (.cells #[.int .i64 hn, .int .i64 hgn] 46)).cell? ⟨w.heap.size, 3, none⟩ = some (.int .i64 tm) := below_cell hb q1_3
  have n1_4 : (w1.alloc (.cells #[.int .i64 hn, .int .i64 hgn] 46)).cell? ⟨w.heap.size, 4, none⟩ = some (.int .i64 arg) := below_cell hb q1_4
  have n1_5 : (w1.alloc (.cells #[.int .i64 hn, .int .i64 hgn] 46)).cell? ⟨w.heap.size, 5, none⟩ = some (.int .i64 us) := below_cell hb q1_5
  go_wp2_with fail
  clear n0_0 n1_0 n1_1 n1_2 n1_3 n1_4 n1_5 q0_0 q1_0 q1_1 q1_2 q1_3 q1_4 q1_5
  generalize (w1.alloc (.cells #[.int .i64 hn, .int .i64 hgn] 46)) = w2 at *
  replace HG := Go.Lib.hid (HG.out.below hb)
  replace HE := Go.Lib.hid (HE0.out)
  replace Hhk := Go.Lib.hid (ConSim.ext E.cf (prApp E.cf (evU V)) E t Hhk.out (below_ext hb t L))
  replace HD := Go.Lib.hid (HD.out.trans (below_did hb t L))
  clear hb HE0
  have q0_0 : w2.cell? ⟨w1.heap.size, 0, none⟩ = some (.int .i64 hn) := HE.out.cell 0 0 rfl rfl
  have q0_1 : w2.cell? ⟨w1.heap.size, 1, none⟩ = some (.int .i64 hgn) := HE.out.cell 0 1 rfl rfl
  have q1_0 : w2.cell? ⟨w.heap.size + 1, 0, none⟩ = some (.func (.func ghk) #[] chk) := HE.out.cell 1 0 rfl rfl
  have q2_0 : w2.cell? ⟨w.heap.size, 0, none⟩ = some (.int .i64 3) := HE.out.cell 2 0 rfl rfl
  have q2_1 : w2.cell? ⟨w.heap.size, 1, none⟩ = some (.int .i64 hn) := HE.out.cell 2 1 rfl rfl
  have q2_2 : w2.cell? ⟨w.heap.size, 2, none⟩ = some (.int .i64 hgn) := HE.out.cell 2 2 rfl rfl
  have q2_3 : w2.cell? ⟨w.heap.size, 3, none⟩ = some (.int .i64 tm) := HE.out.cell 2 3 rfl rfl
  have q2_4 : w2.cell? ⟨w.heap.size, 4, none⟩ = some (.int .i64 arg) := HE.out.cell 2 4 rfl rfl
  have q2_5 : w2.cell? ⟨w.heap.size, 5, none⟩ = some (.int .i64 us) := HE.out.cell 2 5 rfl rfl
  refine (rearm_any (wk := wk) (n := hn) (g := hgn) (ticks := tm) hR HG.out (does1_con (HE.out.sub (env' := [(w.heap.size + 1, [.func (.func ghk) #[] chk])]) (by simp)) Hhk.out) hw htu).mono ?_
  rintro e w9 ⟨v2, L9, rfl, hd2, hg2, hc2⟩
  go_wp2
  go_ret
  exact ⟨v2, L9, rfl, HD.out.trans hd2, hg2, hc2⟩
set_option maxHeartbeats 4000000 in
theorem does_c (hV : ∀ r e S, S.cnt ≤ (V r e S).1.cnt ∧ S.log.length ≤ (V r e S).1.log.length) {m : Nat} {wk op hn hgn tm arg us : Int} {vk : Value} {r : ρ} {L : Lab} {w : World} {S : St} (hg : Good E L S w) (hk : ConSim E.cf (prApp E.cf (evU V)) E t isEv m L w vk (.ret (.user r))) (hw : 0 ≤ wk) (htu : tm < 9223372036854775808) (hop : ¬ op = 1) (hop2 : ¬ op = 3) :
    Calls Tryz.prog 53 #[.pointer (some ⟨E.k, 0, none⟩), .int .i64 wk, .agg #[.int .i64 op, .int .i64 hn, .int .i64 hgn, .int .i64 tm, .int .i64 arg, .int .i64 us], vk] w (Post E.cf (prApp E.cf (evU V)) E t m L w (S, some (cancelK E.cf wk hn hgn (.user r)))) := by
  have hR : RMono (prApp E.cf (evU V)) := prApp_mono E.cf (evU V) (evU_mono V hV)
  have henv := Env.nil L w
  have d1 : (op == 1) = false := by simp [hop]
  have d3 : (op == 3) = false := by simp [hop2]
  clear hop hop2
  have HD := Go.Lib.hid (Did.refl t L w)
  have HG := Go.Lib.hid hg
  have HE := Go.Lib.hid henv
  obtain ⟨ghk, chk, hvhk, hgfhk, _⟩ := id hk
  subst hvhk
  have henhk : ∀ (args : Array Value) (w : World), (callFunc ghk args).run Tryz.prog w = .ok (.enter ghk args) w := hgfhk
  have Hhk := Go.Lib.hid hk
  clear hg henv hk hgfhk
  have hb0 : Below w.heap.size w ((w.alloc (.cells #[.int .i64 op, .int .i64 hn, .int .i64 hgn, .int .i64 tm, .int .i64 arg, .int .i64 us] 38)).alloc (.cells #[.func (.func ghk) #[] chk] 102)) := (((Below.refl _ _).alloc (Nat.le_refl _) _).alloc (by first | (simp; done) | (simp; omega)) _)
  have HE0 : Hid (Env L ((w.alloc (.cells #[.int .i64 op, .int .i64 hn, .int .i64 hgn, .int .i64 tm, .int .i64 arg, .int .i64 us] 38)).alloc (.cells #[.func (.func ghk) #[] chk] 102)) [(w.heap.size + 1, [.func (.func ghk) #[] chk]), (w.heap.size, [.int .i64 op, .int .i64 hn, .int .i64 hgn, .int .i64 tm, .int .i64 arg, .int .i64 us])]) := Go.Lib.hid (Env.alloc_at (Env.alloc_at HE.out (fun b hb => HG.out.new b (by first | exact hb | (simp at hb; omega))) [.int .i64 op, .int .i64 hn, .int .i64 hgn, .int .i64 tm, .int .i64 arg, .int .i64 us] 38 (b := w.heap.size) (by first | rfl | (simp; done) | (simp; omega))) (fun b hb => HG.out.new b (by first | exact hb | (simp at hb; omega))) [.func (.func ghk) #[] chk] 102 (b := w.heap.size + 1) (by first | rfl | (simp; done) | (simp; omega)))
  replace HG := Go.Lib.hid (HG.out.below hb0)
  replace HE := Go.Lib.hid (HE0.out)
  replace Hhk := Go.Lib.hid (ConSim.ext E.cf (prApp E.cf (evU V)) E t Hhk.out (below_ext hb0 t L))
  replace HD := Go.Lib.hid (HD.out.trans (below_did hb0 t L))
  clear hb0 HE0
  have q0_0 : ((w.alloc (.cells #[.int .i64 op, .int .i64 hn, .int .i64 hgn, .int .i64 tm, .int .i64 arg, .int .i64 us] 38)).alloc (.cells #[.func (.func ghk) #[] chk] 102)).cell? ⟨w.heap.size + 1, 0, none⟩ = some (.func (.func ghk) #[] chk) := HE.out.cell 0 0 rfl rfl
  have q1_0 : ((w.alloc (.cells #[.int .i64 op, .int .i64 hn, .int .i64 hgn, .int .i64 tm, .int .i64 arg, .int .i64 us] 38)).alloc (.cells #[.func (.func ghk) #[] chk] 102)).cell? ⟨w.heap.size, 0, none⟩ = some (.int .i64 op) := HE.out.cell 1 0 rfl rfl
  have q1_1 : ((w.alloc (.cells #[.int .i64 op, .int .i64 hn, .int .i64 hgn, .int .i64 tm, .int .i64 arg, .int .i64 us] 38)).alloc (.cells #[.func (.func ghk) #[] chk] 102)).cell? ⟨w.heap.size, 1, none⟩ = some (.int .i64 hn) := HE.out.cell 1 1 rfl rfl
  have q1_2 : ((w.alloc (.cells #[.int .i64 op, .int .i64 hn, .int .i64 hgn, .int .i64 tm, .int .i64 arg, .int .i64 us] 38)).alloc (.cells #[.func (.func ghk) #[] chk] 102)).cell? ⟨w.heap.size, 2, none⟩ = some (.int .i64 hgn) := HE.out.cell 1 2 rfl rfl
  have q1_3 : ((w.alloc (.cells #[.int .i64 op, .int .i64 hn, .int .i64 hgn, .int .i64 tm, .int .i64 arg, .int .i64 us] 38)).alloc (.cells #[.func (.func ghk) #[] chk] 102)).cell? ⟨w.heap.size, 3, none⟩ = some (.int .i64 tm) := HE.out.cell 1 3 rfl rfl
  have q1_4 : ((w.alloc (.cells #[.int .i64 op, .int .i64 hn, .int .i64 hgn, .int .i64 tm, .int .i64 arg, .int .i64 us] 38)).alloc (.cells #[.func (.func ghk) #[] chk] 102)).cell? ⟨w.heap.size, 4, none⟩ = some (.int .i64 arg) := HE.out.cell 1 4 rfl rfl
  have q1_5 : ((w.alloc (.cells #[.int .i64 op, .int .i64 hn, .int .i64 hgn, .int .i64 tm, .int .i64 arg, .int .i64 us] 38)).alloc (.cells #[.func (.func ghk) #[] chk] 102)).cell? ⟨w.heap.size, 5, none⟩ = some (.int .i64 us) := HE.out.cell 1 5 rfl rfl
  go_enter Tryz.func53, Tryz.ntmps53
  go_wp2_with fail
  generalize ((w.alloc (.cells #[.int .i64 op, .int .i64 hn, .int .i64 hgn, .int .i64 tm, .int .i64 arg, .int .i64 us] 38)).alloc (.cells #[.func (.func ghk) #[] chk] 102)) = w0 at *
  refine (law12_Of hn hgn _).mono ?_
  rintro e w1 ⟨rfl, hb⟩
  clear q0_0 q1_0 q1_1 q1_2 q1_3 q1_4 q1_5
  replace HG := Go.Lib.hid (HG.out.below hb)
  replace HE := Go.Lib.hid (HE.out.ext (below_ext hb t L))
  replace Hhk := Go.Lib.hid (ConSim.ext E.cf (prApp E.cf (evU V)) E t Hhk.out (below_ext hb t L))
  replace HD := Go.Lib.hid (HD.out.trans (below_did hb t L))
  clear hb
  have q0_0 : w1.cell? ⟨w.heap.size + 1, 0, none⟩ = some (.func (.func ghk) #[] chk) := HE.out.cell 0 0 rfl rfl
  have q1_0 : w1.cell? ⟨w.heap.size, 0, none⟩ = some (.int .i64 op) := HE.out.cell 1 0 rfl rfl
  have q1_1 : w1.cell? ⟨w.heap.size, 1, none⟩ = some (.int .i64 hn) := HE.out.cell 1 1 rfl rfl
  have q1_2 : w1.cell? ⟨w.heap.size, 2, none⟩ = some (.int .i64 hgn) := HE.out.cell 1 2 rfl rfl
  have q1_3 : w1.cell? ⟨w.heap.size, 3, none⟩ = some (.int .i64 tm) := HE.out.cell 1 3 rfl rfl
  have q1_4 : w1.cell? ⟨w.heap.size, 4, none⟩ = some (.int .i64 arg) := HE.out.cell 1 4 rfl rfl
  have q1_5 : w1.cell? ⟨w.heap.size, 5, none⟩ = some (.int .i64 us) := HE.out.cell 1 5 rfl rfl
  have hb : Below w1.heap.size w1 (w1.alloc (.cells #[.int .i64 hn, .int .i64 hgn] 46)) := (Below.refl _ _).alloc (Nat.le_refl _) _
  have HE0 := Go.Lib.hid (Env.alloc_at HE.out (fun b hb => HG.out.new b hb) [.int .i64 hn, .int .i64 hgn] 46 (b := w1.heap.size) rfl)
  have n0_0 : (w1.alloc (.cells #[.int .i64 hn, .int .i64 hgn] 46)).cell? ⟨w.heap.size + 1, 0, none⟩ = some (.func (.func ghk) #[] chk) := below_cell hb q0_0
  have n1_0 : (w1.alloc (.cells #[.int .i64 hn, .int .i64 hgn] 46)).cell? ⟨w.heap.size, 0, none⟩ = some (.int .i64 op) := below_cell hb q1_0
  have n1_1 : (w1.alloc (.cells #[.int .i64 hn, .int .i64 hgn] 46)).cell? ⟨w.heap.size, 1, none⟩ = some (.int .i64 hn) := below_cell hb q1_1
  have n1_2 : (w1.alloc (.cells #[.int .i64 hn, .int .i64 hgn] 46)).cell? ⟨w.heap.size, 2, none⟩ = some (.int .i64 hgn) := below_cell hb q1_2
  have n1_3 : (w1.alloc (.cells #[.int .i64 hn, .int .i64 hgn] 46)).cell? ⟨w.heap.size, 3, none⟩ = some (.int .i64 tm) := below_cell hb q1_3
  have n1_4 : (w1.alloc (.cells #[.int .i64 hn, .int .i64 hgn] 46)).cell? ⟨w.heap.size, 4, none⟩ = some (.int .i64 arg) := below_cell hb q1_4
  have n1_5 : (w1.alloc (.cells #[.int .i64 hn, .int .i64 hgn] 46)).cell? ⟨w.heap.size, 5, none⟩ = some (.int .i64 us) := below_cell hb q1_5
  go_wp2_with fail
  clear n0_0 n1_0 n1_1 n1_2 n1_3 n1_4 n1_5 q0_0 q1_0 q1_1 q1_2 q1_3 q1_4 q1_5
  generalize (w1.alloc (.cells #[.int .i64 hn, .int .i64 hgn] 46)) = w2 at *
  replace HG := Go.Lib.hid (HG.out.below hb)
  replace HE := Go.Lib.hid (HE0.out)
  replace Hhk := Go.Lib.hid (ConSim.ext E.cf (prApp E.cf (evU V)) E t Hhk.out (below_ext hb t L))
  replace HD := Go.Lib.hid (HD.out.trans (below_did hb t L))
  clear hb HE0
  have q0_0 : w2.cell? ⟨w1.heap.size, 0, none⟩ = some (.int .i64 hn) := HE.out.cell 0 0 rfl rfl
  have q0_1 : w2.cell? ⟨w1.heap.size, 1, none⟩ = some (.int .i64 hgn) := HE.out.cell 0 1 rfl rfl
  have q1_0 : w2.cell? ⟨w.heap.size + 1, 0, none⟩ = some (.func (.func ghk) #[] chk) := HE.out.cell 1 0 rfl rfl
  have q2_0 : w2.cell? ⟨w.heap.size, 0, none⟩ = some (.int .i64 op) := HE.out.cell 2 0 rfl rfl
  have q2_1 : w2.cell? ⟨w.heap.size, 1, none⟩ = some (.int .i64 hn) := HE.out.cell 2 1 rfl rfl
  have q2_2 : w2.cell? ⟨w.heap.size, 2, none⟩ = some (.int .i64 hgn) := HE.out.cell 2 2 rfl rfl
  have q2_3 : w2.cell? ⟨w.heap.size, 3, none⟩ = some (.int .i64 tm) := HE.out.cell 2 3 rfl rfl
  have q2_4 : w2.cell? ⟨w.heap.size, 4, none⟩ = some (.int .i64 arg) := HE.out.cell 2 4 rfl rfl
  have q2_5 : w2.cell? ⟨w.heap.size, 5, none⟩ = some (.int .i64 us) := HE.out.cell 2 5 rfl rfl
  refine (cancel_any (wk := wk) (n := hn) (g := hgn) hR HG.out (does2_con (HE.out.sub (env' := [(w.heap.size + 1, [.func (.func ghk) #[] chk])]) (by simp)) Hhk.out) hw).mono ?_
  rintro e w9 ⟨v2, L9, rfl, hd2, hg2, hc2⟩
  go_wp2
  go_ret
  exact ⟨v2, L9, rfl, HD.out.trans hd2, hg2, hc2⟩
theorem does_any (hV : ∀ r e S, S.cnt ≤ (V r e S).1.cnt ∧ S.log.length ≤ (V r e S).1.log.length) {m : Nat} {wk : Int} {d : DeedR} {vk : Value} {r : ρ} {L : Lab} {w : World} {S : St} (hg : Good E L S w) (hk : ConSim E.cf (prApp E.cf (evU V)) E t isEv m L w vk (.ret (.user r))) (hw : 0 ≤ wk) (htu : d.time < 9223372036854775808) :
    Calls Tryz.prog 53 #[.pointer (some ⟨E.k, 0, none⟩), .int .i64 wk, .agg #[.int .i64 d.op, .int .i64 d.hn, .int .i64 d.hg, .int .i64 d.time, .int .i64 d.arg, .int .i64 d.user], vk] w (Post E.cf (prApp E.cf (evU V)) E t m L w (S, some (doesK E.cf wk d (.user r)))) := by
  unfold doesK
  by_cases h1 : d.op = 1
  · rw [if_pos h1]; exact does_a hV hg hk hw htu h1
  · rw [if_neg h1]
    by_cases h3 : d.op = 3
    · rw [if_pos h3]; exact does_b hV hg hk hw htu h3
    · rw [if_neg h3]; exact does_c hV hg hk hw htu h1 h3
end
end Go.Proofs.YtgemjjpmoejgdaaGreat
/- Deeds that are done alone, whose callers take events. -/
namespace Go.Proofs.YtgemjjpmoejgdaaGreat
open Go.RowKit
set_option maxRecDepth 100000
set_option linter.unusedVariables false

/-- A deed: the shop, what is to be returned. -/
def deedR (slack : Nat) (R : ShopR) (w : Nat) (d : DeedR) : ShopR × Ev :=
  if d.op = 1 then ((startR slack R d.time d.arg d.user).1, { nn := (startR slack R d.time d.arg d.user).2.1, ng := (startR slack R d.time d.arg d.user).2.2.1, err := (startR slack R d.time d.arg d.user).2.2.2 })
  else if d.op = 3 then ((rearmR slack R w d.hn d.hg d.time).1, { nn := (rearmR slack R w d.hn d.hg d.time).2.1, ng := (rearmR slack R w d.hn d.hg d.time).2.2.1, err := (rearmR slack R w d.hn d.hg d.time).2.2.2 })
  else ((cancelR R d.hn d.hg).1, { yes := (cancelR R d.hn d.hg).2 })
/-- What a deed that is done alone comes to. -/
structure Done {ρ : Type} (V : ρ → Ev → St → St × Option (K (PR ρ))) (c : Cf) (κ : K (PR ρ)) (r : ρ) (S : St) (R' : ShopR) (ev : Ev) : Prop where
  ex : ∃ d T fn' ft' bx', 1 ≤ d ∧ d ≤ 8 * c.tickets + 17 ∧ RelR c T.m R' fn' ft' bx' ∧ T.n = S.n ∧ T.reg = S.reg ∧ T.sl = S.sl ∧ T.cnt ≤ S.cnt + d ∧ (∃ e, T.log = S.log ++ [e]) ∧
    ∀ T', V r ev T = (T', none) → Bd T' → ∃ m, 1 ≤ m ∧ m ≤ d ∧ RunsF c (prApp c (evU V)) κ S m T'
section
variable {ρ : Type} {V : ρ → Ev → St → St × Option (K (PR ρ))} {c : Cf} {S : St} {fn ft : List Nat} {bx : Nat → List Nat} {R : ShopR} {r : ρ}
theorem evUR_mono (hV : ∀ r e S, S.cnt ≤ (V r e S).1.cnt ∧ S.log.length ≤ (V r e S).1.log.length) : RMono (prApp c (evU V)) := prApp_mono c (evU V) (evU_mono V hV)
theorem deed_done (hV : ∀ r e S, S.cnt ≤ (V r e S).1.cnt ∧ S.log.length ≤ (V r e S).1.log.length) {s : Nat} {d : DeedR} (hok : c.Ok) (hs : s < c.workers) (hn : S.n = c.size) (hr : RelR c S.m R fn ft bx) (hu : d.user < 9223372036854775808) :
    Done V c (doesK c s d (.user r)) r S (deedR c.slack R s d).1 (deedR c.slack R s d).2 := by
  unfold doesK deedR
  by_cases h1 : d.op = 1
  · rw [if_pos h1, if_pos h1]
    exact ⟨(start_rel (R0 := evU V) (k := .user r) hok hn hr hu).runs (evUR_mono hV)⟩
  · rw [if_neg h1, if_neg h1]
    by_cases h3 : d.op = 3
    · rw [if_pos h3, if_pos h3]
      exact ⟨(rearm_rel (R0 := evU V) (k := .user r) hok rfl hs hn hr).runs (evUR_mono hV)⟩
    · rw [if_neg h3, if_neg h3]
      exact ⟨(cancel_rel (R0 := evU V) (k := .user r) hok hn hr).runs (evUR_mono hV)⟩
end
/-- A caller that does nothing. -/
def nilV : Unit → Ev → St → St × Option (K (PR Unit)) := fun _ _ S => (S, none)
theorem nilV_mono : ∀ r e S, S.cnt ≤ (nilV r e S).1.cnt ∧ S.log.length ≤ (nilV r e S).1.log.length := fun _ _ _ => ⟨Nat.le_refl _, Nat.le_refl _⟩
/-- A caller that writes one variable down. -/
def onV (f : Ev → Value) : Nat × Nat → Ev → St → St × Option (K (PR (Nat × Nat))) := fun a e S => if S.knows a then (S.setR a (f e), none) else (S.burst, none)
theorem onV_mono (f : Ev → Value) : ∀ r e S, S.cnt ≤ (onV f r e S).1.cnt ∧ S.log.length ≤ (onV f r e S).1.log.length := by
  intro r e S
  unfold onV
  split
  · exact ⟨Nat.le_refl _, Nat.le_refl _⟩
  · exact ⟨by unfold St.burst; dsimp only; omega, Nat.le_refl _⟩
theorem onV_ok (f : Ev → Value) (a : Nat × Nat) (e : Ev) (S : St) (hk : S.knows a) : onV f a e S = (S.setR a (f e), none) := if_pos hk
/-- A Cancel, or a Rearm, of a handle that isn't armed turns no cell. -/
theorem stale_same {c : Cf} {S : St} {fn ft : List Nat} {bx : Nat → List Nat} {R : ShopR} {f : Ev → Value} {a : Nat × Nat} {d : DeedR} (hok : c.Ok) (hn : S.n = c.size) (hr : RelR c S.m R fn ft bx) (h1 : ¬ d.op = 1) (ha : armedR R d.hn d.hg = false) (hk : S.knows a) (hc : S.cnt ≤ 1000000) (hl : S.log.length ≤ 1000) :
    ∃ m T ev, 1 ≤ m ∧ m ≤ 2 ∧ RunsF c (prApp c (evU (onV f))) (doesK c 0 d (.user a)) S m T ∧ T.m = S.m ∧ T.n = S.n ∧ T.reads a (f ev) ∧ ev.yes = false ∧ ev.nn = 0 ∧ ev.ng = 0 ∧ (if d.op = 3 then ev.err ≠ 0 else ev.err = 0) := by
  have hsz := hok.size_le
  have hcl := hr.clock'
  have key : ∀ (κ : K (PR (Nat × Nat))) (n q : Nat) (e : Ev) (A : Arg) (ev : Ev), (∀ i, iter c (prApp c (evU (onV f))) (i + n) (some κ) S = iterR c (prApp c (evU (onV f))) i (prApp c (evU (onV f)) (.user a) A ((S.w q S.m).note e))) →
      (∀ T, evU (onV f) a A T = onV f a ev T) → n ≤ 2 → q ≤ 2 → ∃ m T, 1 ≤ m ∧ m ≤ 2 ∧ RunsF c (prApp c (evU (onV f))) κ S m T ∧ T.m = S.m ∧ T.n = S.n ∧ T.reads a (f ev) := by
    intro κ n q e A ev hi hA h2 hq
    have hrun := hi 0
    have hk' : ((S.w q S.m).note e).knows a := hk
    rw [prApp_user, hA, onV_ok f a ev _ hk', iterR_none, Nat.zero_add] at hrun
    obtain ⟨m, hm, hrn⟩ := runs_of_iter (evUR_mono (onV_mono f)) n _ _ _ hrun ⟨by show S.cnt + q ≤ _; omega, by show (S.log ++ [e]).length ≤ _; rw [List.length_append]; show S.log.length + 1 ≤ _; omega⟩
    exact ⟨m, _, hrn.pos, by omega, hrn, rfl, rfl, St.setR_reads hk'⟩
  unfold doesK
  rw [if_neg h1]
  by_cases h3 : d.op = 3
  · rw [if_pos h3]
    simp only [if_pos h3]
    have hhe : ∀ er T, evU (onV f) a (.he 0 0 er) T = onV f a { err := er } T := fun er T => rfl
    unfold rearmK
    by_cases ht : d.time < 0
    · obtain ⟨m, T, q⟩ := key _ 1 0 _ _ _ (fun i => by have := rearm_arg (R0 := evU (onV f)) (k := .user a) (c := c) (S := S) (w := 0) (n := d.hn) (g := d.hg) ht i; unfold rearmK at this; exact this) (hhe 1) (by omega) (by omega)
      exact ⟨m, T, _, q.1, q.2.1, q.2.2.1, q.2.2.2.1, q.2.2.2.2.1, q.2.2.2.2.2, rfl, rfl, rfl, by show (1 : Int) ≠ 0; decide⟩
    · by_cases hnd : nodeR R d.hn
      · obtain ⟨x, hx0, hx, haq, hno⟩ := hr.armed (g := d.hg) hnd
        rw [ha] at haq
        by_cases hf : 1073741823 - (S.m 0 : Int) < d.time
        · obtain ⟨m, T, q⟩ := key _ 1 1 _ _ _ (fun i => by have := rearm_range (R0 := evU (onV f)) (k := .user a) (c := c) (S := S) (w := 0) (g := d.hg) ht hx (by omega) hcl hf i; unfold rearmK at this; rw [← hx0] at this; exact this) (hhe 2) (by omega) (by omega)
          exact ⟨m, T, _, q.1, q.2.1, q.2.2.1, q.2.2.2.1, q.2.2.2.2.1, q.2.2.2.2.2, rfl, rfl, rfl, by show (2 : Int) ≠ 0; decide⟩
        · obtain ⟨m, T, q⟩ := key _ 2 2 _ _ _ (fun i => by have := rearm_no (R0 := evU (onV f)) (k := .user a) (c := c) (S := S) (w := 0) (g := d.hg) ht hx hok hn hcl hf haq.symm i; unfold rearmK at this; rw [← hx0] at this; exact this) (hhe 4) (by omega) (by omega)
          exact ⟨m, T, _, q.1, q.2.1, q.2.2.1, q.2.2.2.1, q.2.2.2.2.1, q.2.2.2.2.2, rfl, rfl, rfl, by show (4 : Int) ≠ 0; decide⟩
      · obtain ⟨m, T, q⟩ := key _ 1 0 _ _ _ (fun i => by have := rearm_stale (R0 := evU (onV f)) (k := .user a) (c := c) (S := S) (w := 0) (n := d.hn) (g := d.hg) ht (hr.noNode (g := d.hg) hnd).1 i; unfold rearmK at this; exact this) (hhe 4) (by omega) (by omega)
        exact ⟨m, T, _, q.1, q.2.1, q.2.2.1, q.2.2.2.1, q.2.2.2.2.1, q.2.2.2.2.2, rfl, rfl, rfl, by show (4 : Int) ≠ 0; decide⟩
  · rw [if_neg h3]
    simp only [if_neg h3]
    have hb : ∀ T, evU (onV f) a (.b false) T = onV f a { yes := false } T := fun T => rfl
    by_cases hnd : nodeR R d.hn
    · obtain ⟨x, hx0, hx, haq, hno⟩ := hr.armed (g := d.hg) hnd
      rw [ha] at haq
      obtain ⟨m, T, q⟩ := key _ 1 1 _ _ _ (fun i => by have := cancel_no (R0 := evU (onV f)) (k := .user a) (c := c) (S := S) (w := 0) (g := d.hg) hx hn haq.symm i; rw [← hx0] at this; exact this) hb (by omega) (by omega)
      exact ⟨m, T, _, q.1, q.2.1, q.2.2.1, q.2.2.2.1, q.2.2.2.2.1, q.2.2.2.2.2, rfl, rfl, rfl, rfl⟩
    · obtain ⟨m, T, q⟩ := key _ 1 0 _ _ _ (fun i => cancel_stale (R0 := evU (onV f)) (k := .user a) (c := c) (S := S) (w := 0) (n := d.hn) (g := d.hg) (hr.noNode (g := d.hg) hnd).1 i) hb (by omega) (by omega)
      exact ⟨m, T, _, q.1, q.2.1, q.2.2.1, q.2.2.2.1, q.2.2.2.2.1, q.2.2.2.2.2, rfl, rfl, rfl, rfl⟩
end Go.Proofs.YtgemjjpmoejgdaaGreat
/- A caller's own slice grows. -/
namespace Go.Proofs.YtgemjjpmoejgdaaGreat
open Go.RowKit
set_option maxRecDepth 100000
set_option linter.unusedVariables false

theorem Good.sled {E : G} {L : Lab} {S : St} {w W w1 : World} {s : Sl} {sv : Value} {news : List Value} {k : Nat} (hg : Good E L S w) (hs : S.sl = some s) (hb : Below w.heap.size w W) (hsv : w.cell? ⟨s.b, s.o, none⟩ = some sv) (hl : ∀ g, sv.ownBlock = some g → L g = 6) (g cap : Nat)
    (hown : w1.ownsRow 0 s.ty s.sz (.slice (some ⟨g, 0, none⟩) (s.n + k) cap) (s.n + k) (s.xs ++ news)) (hgrow : W.grownBy w1 sv.ownBlock) (hat : sv.ownBlock = some g ∨ g = W.heap.size) (hlt : g < w1.heap.size) :
    Good E (fun b => if b = g then 6 else L b) { S with sl := some { s with n := s.n + k, xs := s.xs ++ news } } (w1.setCell ⟨s.b, s.o, none⟩ (.slice (some ⟨g, 0, none⟩) (s.n + k : Nat) cap)) ∧ Shr L w (fun b => if b = g then 6 else L b) (w1.setCell ⟨s.b, s.o, none⟩ (.slice (some ⟨g, 0, none⟩) (s.n + k : Nat) cap)) := by
  obtain ⟨hsl, hsk⟩ := hg.sv s hs
  have ls := hsl.lb
  have lts := hsl.lt
  have hsz := hb.size
  have hgs := hgrow.size
  have hrow : ∀ b, L b ≠ 6 → some b ≠ sv.ownBlock := fun b h e => h (hl b e.symm)
  have hgl : ∀ b, b < w.heap.size → L b ≠ 6 → b ≠ g := by
    intro b hb' h4 e
    subst e
    rcases hat with h | h
    · exact h4 (hl _ h)
    · omega
  have hlab : ∀ b, b < w.heap.size → (if b = g then 6 else L b) = L b := by
    intro b hb'
    by_cases h4 : L b = 6
    · rw [h4]; simp
    · rw [if_neg (hgl b hb' h4)]
  have hheap1 : ∀ b, b < w.heap.size → L b ≠ 6 → w1.heap[b]? = w.heap[b]? := fun b hb' h4 =>
    (hgrow.block b (by omega) (hrow b h4)).trans (hb.block b hb')
  have hheap : ∀ b, b < w.heap.size → L b ≠ 5 → L b ≠ 6 → (w1.setCell ⟨s.b, s.o, none⟩ (.slice (some ⟨g, 0, none⟩) (s.n + k : Nat) cap)).heap[b]? = w.heap[b]? := fun b hb' h1 h4 =>
    (Below.heap_setCell _ _ _ _ (by intro e; subst e; exact h1 ls)).trans (hheap1 b hb' h4)
  have hcell : ∀ b o v, b < w.heap.size → L b ≠ 6 → (b, o) ≠ (s.b, s.o) → w.cell? ⟨b, o, none⟩ = some v → (w1.setCell ⟨s.b, s.o, none⟩ (.slice (some ⟨g, 0, none⟩) (s.n + k : Nat) cap)).cell? ⟨b, o, none⟩ = some v := fun b o v hb' h6 hne h =>
    (World.cell?_setCell_other _ _ _ _ (by intro x; injection x with x1 x2; exact hne (by rw [← x1, ← x2]))).trans ((World.cell?_of_block (a := ⟨b, o, none⟩) (hheap1 b hb' h6)).trans h)
  have lk := cell_lt hg.k0
  have lp := cell_lt hg.pl.c0
  have la := cell_lt hg.ar.a0
  have lc : E.c < w.heap.size := by
    rcases Nat.lt_or_ge E.c w.heap.size with h | h
    · exact h
    · have := hg.new E.c h; have := hg.lc; omega
  dsimp only at lp la lk
  have hL1 := hg.lk
  have hLp := hg.lp
  have hLa := hg.la
  have hLc := hg.lc
  refine ⟨⟨hg.ok, hcell _ 0 _ lk (by omega) (by intro e; injection e with e1 e2; rw [e1] at hL1; omega) hg.k0, hcell _ 1 _ lk (by omega) (by intro e; injection e with e1 e2; rw [e1] at hL1; omega) hg.k1, hg.pl.mono (hheap _ lp (by omega) (by omega)), (have h := hg.ar.below (hheap _ la (by omega) (by omega)) (hheap _ lc (by omega) (by omega)); ⟨h.a0, h.a1, h.af, h.c0, h.cf, h.ne, h.n2, h.m64, h.cnt2⟩), ?_, ?_, ?_, ?_, ?_, ?_, ?_, ?_⟩, ⟨?_, ?_, ?_, ?_, ?_, hlab⟩⟩
  · exact hg.lg.below (hheap _ lk (by omega) (by omega)) (fun g' hg' hlt' => ⟨hheap g' hlt' (by omega) (by omega), hlab g' hlt'⟩)
  · intro b o v hv
    obtain ⟨h1, h2, h3⟩ := hg.rg b o v hv
    have lb := cell_lt h1
    dsimp only at lb
    refine ⟨hcell b o v lb (by omega) (fun e => hsk (by rw [← e]; exact List.mem_map.2 ⟨_, hv, rfl⟩)) h1, ?_, (hlab b lb).trans h3⟩
    rw [World.frozen?_setCell]
    exact (World.frozen?_of_block (a := ⟨b, o, none⟩) (hheap1 b lb (by omega))).trans h2
  · exact (hlab _ lk).trans hL1
  · exact (hlab _ lp).trans hLp
  · exact (hlab _ la).trans hLa
  · exact (hlab _ lc).trans hLc
  · intro b hb'
    rw [World.size_setCell] at hb'
    show (if b = g then 6 else L b) = 0
    rw [if_neg (by omega)]
    exact hg.new b (by omega)
  · intro s' hs'
    cases hs'
    refine ⟨⟨?_, (hlab _ lts).trans ls, .slice (some ⟨g, 0, none⟩) (s.n + k : Nat) cap, ?_, ?_, ?_⟩, hsk⟩
    · rw [World.frozen?_setCell]
      exact (World.frozen?_of_block (a := ⟨s.b, s.o, none⟩) (hheap1 s.b lts (by omega))).trans hsl.fz
    · exact World.cell?_setCell_same _ _ _ ((World.cell?_of_block (a := ⟨s.b, s.o, none⟩) (hheap1 s.b lts (by omega))).trans hsv)
    · refine own_kept hown (fun g' hg' => ?_)
      have : g' = g := by simpa [Value.ownBlock] using hg'.symm
      subst this
      refine Below.heap_setCell _ _ _ _ (fun e => ?_)
      dsimp only at e
      exact hgl s.b lts (by omega) e.symm
    · intro g' hg'
      have : g' = g := by simpa [Value.ownBlock] using hg'.symm
      subst this
      simp
  · exact hgrow.os.trans hb.os
  · exact hgrow.tape.trans hb.tape
  · exact hgrow.output.trans hb.output
  · rw [World.size_setCell]; omega
  · intro b hb' h
    exact hheap b hb' (by omega) (by omega)
end Go.Proofs.YtgemjjpmoejgdaaGreat
