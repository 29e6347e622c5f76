/- The pure machine of a shard's box and of Start: what each closure does that they make. -/
import Derived.Test.YtgemjjpmoejgdaaGreatJoinb
import Derived.Laws.BitsAll
import Derived.Laws.EntriesVeiled
import Derived.Deep.RegionHeld3
namespace Go.Proofs.YtgemjjpmoejgdaaGreat
open Go.RowKit
set_option maxRecDepth 100000
set_option linter.unusedVariables false

/-- An event more. -/
def St.note (S : St) (e : Ev) : St := { S with log := S.log ++ [e] }
/-- The Points of a Cancel, a Rearm, a Migrate. -/
def cancelPoint (w n g : Int) (yes : Bool) : Ev := { kind := 3, worker := w, op := 2, hn := n, hg := g, yes := yes }
def rearmPoint (w hn hg n g time err : Int) : Ev := { kind := 3, worker := w, op := 3, hn := hn, hg := hg, nn := n, ng := g, time := time, err := err }
def migratePoint (w hn hg err : Int) : Ev := { kind := 3, worker := w, op := 4, hn := hn, hg := hg, err := err }
/-- Is a state's word that of a generation that is armed? -/
def armedW (x : Nat) (g : Int) : Bool := decide (part x 0 2 = 1 ∧ ((part x 32 32 : Nat) : Int) = g)
/-- The newest version that a home's word tells of a generation. -/
def homeV (x : Nat) (g : Int) : Int := if ((part x 32 32 : Nat) : Int) = g then (part x 16 16 : Nat) else 0
/-- The Point of a Start: at which it takes effect. -/
def startPoint (w n g time err : Int) : Ev := { kind := 3, worker := w, op := 1, nn := n, ng := g, time := time, err := err }

/-- What is done next: the closures that programs make, with what they have captured; what follows a program stands last. -/
inductive PR (ρ : Type) where
  | user (r : ρ)
  | putA (s t : Int) (k : PR ρ)
  | putB (s t : Int) (head : Nat) (first : Int) (k : PR ρ)
  | layB (s t : Int) (head : Nat) (k : PR ρ)
  | layC (s t : Int) (k : PR ρ)
  | helpA (s t : Int) (head : Nat) (first : Int) (k : PR ρ)
  | helpB (s t first : Int) (k : PR ρ)
  | again (s t : Int) (k : PR ρ)
  | st0 (w : Int) (k : PR ρ)
  | st1 (w ticks shard user : Int) (k : PR ρ)
  | st2 (w shard user deadline : Int) (k : PR ρ)
  | st3 (w shard user deadline n : Int) (k : PR ρ)
  | st4 (w shard user deadline n gen : Int) (k : PR ρ)
  | st5 (k : PR ρ)
  | st6 (w shard user deadline n gen t : Int) (k : PR ρ)
  | st7 (w shard deadline n gen t : Int) (k : PR ρ)
  | st8 (w shard deadline n gen t : Int) (k : PR ρ)
  | st9 (n gen : Int) (k : PR ρ)
  | cn0 (w n g : Int) (k : PR ρ)
  | cn1 (w n g : Int) (k : PR ρ)
  | cn2 (w n g : Int) (k : PR ρ)
  | cn3 (k : PR ρ)
  | ra0 (w n g er : Int) (k : PR ρ)
  | ra1 (w n g ticks : Int) (k : PR ρ)
  | ra2 (w n g dl : Int) (k : PR ρ)
  | ra3 (w n g : Int) (x : Nat) (dl : Int) (k : PR ρ)
  | ra4 (w n g : Int) (x : Nat) (t dl : Int) (k : PR ρ)
  | ra5 (w n g t dl : Int) (k : PR ρ)
  | ra6 (n g : Int) (k : PR ρ)
  | ra7 (k : PR ρ)
  | mg0 (w n g er : Int) (k : PR ρ)
  | mg1 (w n g s : Int) (k : PR ρ)
  | mg2 (w n g s : Int) (k : PR ρ)
  | mg3 (w n g s : Int) (x : Nat) (v : Int) (k : PR ρ)
  | mg4 (w n g s : Int) (x : Nat) (v t : Int) (k : PR ρ)
  | mg5 (k : PR ρ)
  | mg6 (n g s : Int) (x : Nat) (v t : Int) (k : PR ρ)
  | mg7 (n g s : Int) (x : Nat) (v : Int) (k : PR ρ)
  | mg8 (k : PR ρ)

section
variable {ρ : Type} (cf : Cf) (R0 : ρ → Arg → St → St × Option (K (PR ρ)))

/-- A ticket is laid into a shard's box. -/
def putK (s t : Int) (k : PR ρ) : K (PR ρ) := .load (cf.inbox s) (.ret (.putA s t k))
/-- It is laid ahead of what was first. -/
def layK (s t : Int) (head : Nat) (first : Int) (k : PR ρ) : K (PR ρ) := .store (cf.ticketLink t) (toU (first + 1)) (.ret (.layB s t head k))
/-- A timer is started. -/
def startK (w ticks shard user : Int) (k : PR ρ) : K (PR ρ) :=
  if ticks < 0 ∨ user < 0 ∨ shard < 0 ∨ (cf.workers : Int) ≤ shard then .idle (.ret (.st0 w k)) else .load 0 (.ret (.st1 w ticks shard user k))

def prApp : PR ρ → Arg → St → St × Option (K (PR ρ))
  | .user r, a, S => R0 r a S
  | .putA s t k, .w head, S => if headIdx head < 0 then (S, some (layK cf s t head (headIdx head) k)) else (S, some (deadK cf (headIdx head) (.ret (.putB s t head (headIdx head) k))))
  | .putB s t head first k, .b dead, S => if dead then (S, some (.load (cf.ticketLink first) (.ret (.helpA s t head first k)))) else (S, some (layK cf s t head first k))
  | .layB s t head k, .u, S => (S, some (.cas (cf.inbox s) head (turned head t) (.ret (.layC s t k))))
  | .layC s t k, .b ok, S => if ok then prApp k .u S else (S, some (putK cf s t k))
  | .helpA s t head first k, .w next, S => (S, some (.cas (cf.inbox s) head (turned head (wrap64 (toI next - 1))) (.ret (.helpB s t first k))))
  | .helpB s t first k, .b ok, S => if ok then (S, some (pushK .tickets first (.ret (.again s t k)))) else (S, some (putK cf s t k))
  | .again s t k, .u, S => (S, some (putK cf s t k))
  | .st0 w k, .u, S => prApp k (.he 0 0 1) (S.note (startPoint w 0 0 0 1))
  | .st1 w ticks shard user k, .w now, S => if 1073741823 < now then (S.burst, none) else if 1073741823 - toI now < ticks then prApp k (.he 0 0 2) (S.note (startPoint w 0 0 0 2)) else (S, some (popK .nodes (.ret (.st2 w shard user (toI now + ticks) k))))
  | .st2 w shard user deadline k, .pop n ok, S => if n < 0 ∧ ok = true then (S.burst, none) else if ok then (S, some (.load (cf.state n) (.ret (.st3 w shard user deadline n k)))) else prApp k (.he 0 0 3) (S.note (startPoint w 0 0 0 3))
  | .st3 w shard user deadline n k, .w x, S => if part x 32 32 = 4294967295 then prApp k (.he 0 0 5) (S.note (startPoint w 0 0 0 5)) else (S, some (popK .tickets (.ret (.st4 w shard user deadline n ((part x 32 32 : Nat) + 1) k))))
  | .st4 w shard user deadline n gen k, .pop t ok, S => if ok then (S, some (writeK cf t gen 0 n deadline (.ret (.st6 w shard user deadline n gen t k)))) else (S.note (startPoint w 0 0 0 3), some (pushK .nodes n (.ret (.st5 k))))
  | .st5 k, .u, S => prApp k (.he 0 0 3) S
  | .st6 w shard user deadline n gen t k, .u, S => (S, some (.store (cf.user n) (toU user) (.ret (.st7 w shard deadline n gen t k))))
  | .st7 w shard deadline n gen t k, .u, S => (S, some (.store (cf.state n) (stateWord gen deadline 1) (.ret (.st8 w shard deadline n gen t k))))
  | .st8 w shard deadline n gen t k, .u, S => (S.note (startPoint w n gen deadline 0), some (putK cf shard t (.st9 n gen k)))
  | .st9 n gen k, .u, S => prApp k (.he n gen 0) S
  | .cn0 w n g k, .u, S => prApp k (.b false) (S.note (cancelPoint w n g false))
  | .cn1 w n g k, .w x, S => if armedW x g then (S, some (.cas (cf.state n) x (stateWord (part x 32 32 : Nat) (part x 2 30 : Nat) 3) (.ret (.cn2 w n g k)))) else prApp k (.b false) (S.note (cancelPoint w n g false))
  | .cn2 w n g k, .b yes, S => if yes then (S.note (cancelPoint w n g true), some (pushK .nodes n (.ret (.cn3 k)))) else prApp k (.b false) (S.note (cancelPoint w n g false))
  | .cn3 k, .u, S => prApp k (.b true) S
  | .ra0 w n g er k, .u, S => prApp k (.he 0 0 er) (S.note (rearmPoint w n g 0 0 0 er))
  | .ra1 w n g ticks k, .w now, S => if 1073741823 < now then (S.burst, none) else if 1073741823 - toI now < ticks then prApp k (.he 0 0 2) (S.note (rearmPoint w n g 0 0 0 2)) else (S, some (.load (cf.state n) (.ret (.ra2 w n g (toI now + ticks) k))))
  | .ra2 w n g dl k, .w x, S => if armedW x g then (if g = 4294967295 then prApp k (.he 0 0 5) (S.note (rearmPoint w n g 0 0 0 5)) else (S, some (popK .tickets (.ret (.ra3 w n g x dl k))))) else prApp k (.he 0 0 4) (S.note (rearmPoint w n g 0 0 0 4))
  | .ra3 w n g x dl k, .pop t ok, S => if ok then (S, some (writeK cf t (g + 1) 0 n dl (.ret (.ra4 w n g x t dl k)))) else prApp k (.he 0 0 3) (S.note (rearmPoint w n g 0 0 0 3))
  | .ra4 w n g x t dl k, .u, S => (S, some (.cas (cf.state n) x (stateWord (g + 1) dl 1) (.ret (.ra5 w n g t dl k))))
  | .ra5 w n g t dl k, .b ok, S => if ok then (S.note (rearmPoint w n g n (g + 1) dl 0), some (putK cf w t (.ra6 n (g + 1) k))) else (S.note (rearmPoint w n g 0 0 0 4), some (pushK .tickets t (.ret (.ra7 k))))
  | .ra6 n g k, .u, S => prApp k (.he n g 0) S
  | .ra7 k, .u, S => prApp k (.he 0 0 4) S
  | .mg0 w n g er k, .u, S => prApp k (.e er) (S.note (migratePoint w n g er))
  | .mg1 w n g s k, .w x, S => if armedW x g then (S, some (.load (cf.home n) (.ret (.mg2 w n g s k)))) else prApp k (.e 4) (S.note (migratePoint w n g 4))
  | .mg2 w n g s k, .w x, S => if homeV x g = 65535 then prApp k (.e 5) (S.note (migratePoint w n g 5)) else (S, some (popK .tickets (.ret (.mg3 w n g s x (homeV x g + 1) k))))
  | .mg3 w n g s x v k, .pop t ok, S => if ok then (S, some (.load (cf.state n) (.ret (.mg4 w n g s x v t k)))) else prApp k (.e 3) (S.note (migratePoint w n g 3))
  | .mg4 w n g s x v t k, .w y, S => if armedW y g then (S.note (migratePoint w n g 0), some (writeK cf t g v n (part y 2 30 : Nat) (.ret (.mg6 n g s x v t k)))) else (S.note (migratePoint w n g 4), some (pushK .tickets t (.ret (.mg5 k))))
  | .mg5 k, .u, S => prApp k (.e 4) S
  | .mg6 n g s x v t k, .u, S => (S, some (putK cf s t (.mg7 n g s x v k)))
  | .mg7 n g s x v k, .u, S => (S, some (.cas (cf.home n) x (homeWord g v s) (.ret (.mg8 k))))
  | .mg8 k, .b ok, S => prApp k (.e 0) S
  | _, _, S => (S, none)

theorem app_ret {ρ : Type} {cf : Cf} {R : ρ → Arg → St → St × Option (K ρ)} (r : ρ) (a : Arg) (S : St) : app cf R (.ret r) a S = R r a S := rfl
theorem note_mono (S : St) (e : Ev) : S.cnt ≤ (S.note e).cnt ∧ S.log.length ≤ (S.note e).log.length := ⟨Nat.le_refl _, by unfold St.note; simp⟩
theorem mono_trans {S T : St} {r : St × Option (K (PR ρ))} (h : S.cnt ≤ T.cnt ∧ S.log.length ≤ T.log.length) (h2 : T.cnt ≤ r.1.cnt ∧ T.log.length ≤ r.1.log.length) : S.cnt ≤ r.1.cnt ∧ S.log.length ≤ r.1.log.length := ⟨Nat.le_trans h.1 h2.1, Nat.le_trans h.2 h2.2⟩
theorem burst_mono (S : St) (o : Option (K (PR ρ))) : S.cnt ≤ ((S.burst, o) : St × Option (K (PR ρ))).1.cnt ∧ S.log.length ≤ ((S.burst, o) : St × Option (K (PR ρ))).1.log.length := ⟨by unfold St.burst; dsimp only; omega, Nat.le_refl _⟩
theorem mono_refl (S : St) (o : Option (K (PR ρ))) : S.cnt ≤ ((S, o) : St × Option (K (PR ρ))).1.cnt ∧ S.log.length ≤ ((S, o) : St × Option (K (PR ρ))).1.log.length := ⟨Nat.le_refl _, Nat.le_refl _⟩
theorem prApp_mono (h0 : ∀ r a S, S.cnt ≤ (R0 r a S).1.cnt ∧ S.log.length ≤ (R0 r a S).1.log.length) : RMono (prApp cf R0) := by
  intro c
  induction c with
  | user r => intro a S; unfold prApp; exact h0 r a S
  | st0 w k ih => intro a S; cases a <;> unfold prApp <;> first | exact mono_refl S _ | exact mono_trans (note_mono S _) (ih _ _)
  | st1 w ticks shard user k ih => intro a S; cases a <;> unfold prApp <;> first | exact mono_refl S _ | (split <;> first | exact burst_mono S _ | (split <;> first | exact mono_refl S _ | exact mono_trans (note_mono S _) (ih _ _)))
  | st2 w shard user deadline k ih => intro a S; cases a <;> unfold prApp <;> first | exact mono_refl S _ | (split <;> first | exact burst_mono S _ | (split <;> first | exact mono_refl S _ | exact mono_trans (note_mono S _) (ih _ _)))
  | st3 w shard user deadline n k ih => intro a S; cases a <;> unfold prApp <;> first | exact mono_refl S _ | (split <;> first | exact mono_refl S _ | exact mono_trans (note_mono S _) (ih _ _))
  | st4 w shard user deadline n gen k ih => intro a S; cases a <;> unfold prApp <;> first | exact mono_refl S _ | (split <;> first | exact mono_refl S _ | exact mono_trans (note_mono S _) (mono_refl _ _))
  | st5 k ih => intro a S; cases a <;> unfold prApp <;> first | exact mono_refl S _ | exact ih _ _
  | st8 w shard deadline n gen t k ih => intro a S; cases a <;> unfold prApp <;> first | exact mono_refl S _ | exact mono_trans (note_mono S _) (mono_refl _ _)
  | st9 n gen k ih => intro a S; cases a <;> unfold prApp <;> first | exact mono_refl S _ | exact ih _ _
  | cn0 w n g k ih => intro a S; cases a <;> unfold prApp <;> (repeat' split) <;> first | exact mono_refl S _ | exact mono_trans (note_mono S _) (ih _ _) | exact mono_trans (note_mono S _) (mono_refl _ _) | exact ih _ _ | exact burst_mono S _
  | cn1 w n g k ih => intro a S; cases a <;> unfold prApp <;> (repeat' split) <;> first | exact mono_refl S _ | exact mono_trans (note_mono S _) (ih _ _) | exact mono_trans (note_mono S _) (mono_refl _ _) | exact ih _ _ | exact burst_mono S _
  | cn2 w n g k ih => intro a S; cases a <;> unfold prApp <;> (repeat' split) <;> first | exact mono_refl S _ | exact mono_trans (note_mono S _) (ih _ _) | exact mono_trans (note_mono S _) (mono_refl _ _) | exact ih _ _ | exact burst_mono S _
  | cn3 k ih => intro a S; cases a <;> unfold prApp <;> (repeat' split) <;> first | exact mono_refl S _ | exact mono_trans (note_mono S _) (ih _ _) | exact mono_trans (note_mono S _) (mono_refl _ _) | exact ih _ _ | exact burst_mono S _
  | ra0 w n g er k ih => intro a S; cases a <;> unfold prApp <;> (repeat' split) <;> first | exact mono_refl S _ | exact mono_trans (note_mono S _) (ih _ _) | exact mono_trans (note_mono S _) (mono_refl _ _) | exact ih _ _ | exact burst_mono S _
  | ra1 w n g ticks k ih => intro a S; cases a <;> unfold prApp <;> (repeat' split) <;> first | exact mono_refl S _ | exact mono_trans (note_mono S _) (ih _ _) | exact mono_trans (note_mono S _) (mono_refl _ _) | exact ih _ _ | exact burst_mono S _
  | ra2 w n g dl k ih => intro a S; cases a <;> unfold prApp <;> (repeat' split) <;> first | exact mono_refl S _ | exact mono_trans (note_mono S _) (ih _ _) | exact mono_trans (note_mono S _) (mono_refl _ _) | exact ih _ _ | exact burst_mono S _
  | ra3 w n g x dl k ih => intro a S; cases a <;> unfold prApp <;> (repeat' split) <;> first | exact mono_refl S _ | exact mono_trans (note_mono S _) (ih _ _) | exact mono_trans (note_mono S _) (mono_refl _ _) | exact ih _ _ | exact burst_mono S _
  | ra4 w n g x t dl k ih => intro a S; cases a <;> unfold prApp <;> (repeat' split) <;> first | exact mono_refl S _ | exact mono_trans (note_mono S _) (ih _ _) | exact mono_trans (note_mono S _) (mono_refl _ _) | exact ih _ _ | exact burst_mono S _
  | ra5 w n g t dl k ih => intro a S; cases a <;> unfold prApp <;> (repeat' split) <;> first | exact mono_refl S _ | exact mono_trans (note_mono S _) (ih _ _) | exact mono_trans (note_mono S _) (mono_refl _ _) | exact ih _ _ | exact burst_mono S _
  | ra6 n g k ih => intro a S; cases a <;> unfold prApp <;> (repeat' split) <;> first | exact mono_refl S _ | exact mono_trans (note_mono S _) (ih _ _) | exact mono_trans (note_mono S _) (mono_refl _ _) | exact ih _ _ | exact burst_mono S _
  | ra7 k ih => intro a S; cases a <;> unfold prApp <;> (repeat' split) <;> first | exact mono_refl S _ | exact mono_trans (note_mono S _) (ih _ _) | exact mono_trans (note_mono S _) (mono_refl _ _) | exact ih _ _ | exact burst_mono S _
  | mg0 w n g er k ih => intro a S; cases a <;> unfold prApp <;> (repeat' split) <;> first | exact mono_refl S _ | exact mono_trans (note_mono S _) (ih _ _) | exact mono_trans (note_mono S _) (mono_refl _ _) | exact ih _ _ | exact burst_mono S _
  | mg1 w n g s k ih => intro a S; cases a <;> unfold prApp <;> (repeat' split) <;> first | exact mono_refl S _ | exact mono_trans (note_mono S _) (ih _ _) | exact mono_trans (note_mono S _) (mono_refl _ _) | exact ih _ _ | exact burst_mono S _
  | mg2 w n g s k ih => intro a S; cases a <;> unfold prApp <;> (repeat' split) <;> first | exact mono_refl S _ | exact mono_trans (note_mono S _) (ih _ _) | exact mono_trans (note_mono S _) (mono_refl _ _) | exact ih _ _ | exact burst_mono S _
  | mg3 w n g s x v k ih => intro a S; cases a <;> unfold prApp <;> (repeat' split) <;> first | exact mono_refl S _ | exact mono_trans (note_mono S _) (ih _ _) | exact mono_trans (note_mono S _) (mono_refl _ _) | exact ih _ _ | exact burst_mono S _
  | mg4 w n g s x v t k ih => intro a S; cases a <;> unfold prApp <;> (repeat' split) <;> first | exact mono_refl S _ | exact mono_trans (note_mono S _) (ih _ _) | exact mono_trans (note_mono S _) (mono_refl _ _) | exact ih _ _ | exact burst_mono S _
  | mg5 k ih => intro a S; cases a <;> unfold prApp <;> (repeat' split) <;> first | exact mono_refl S _ | exact mono_trans (note_mono S _) (ih _ _) | exact mono_trans (note_mono S _) (mono_refl _ _) | exact ih _ _ | exact burst_mono S _
  | mg6 n g s x v t k ih => intro a S; cases a <;> unfold prApp <;> (repeat' split) <;> first | exact mono_refl S _ | exact mono_trans (note_mono S _) (ih _ _) | exact mono_trans (note_mono S _) (mono_refl _ _) | exact ih _ _ | exact burst_mono S _
  | mg7 n g s x v k ih => intro a S; cases a <;> unfold prApp <;> (repeat' split) <;> first | exact mono_refl S _ | exact mono_trans (note_mono S _) (ih _ _) | exact mono_trans (note_mono S _) (mono_refl _ _) | exact ih _ _ | exact burst_mono S _
  | mg8 k ih => intro a S; cases a <;> unfold prApp <;> (repeat' split) <;> first | exact mono_refl S _ | exact mono_trans (note_mono S _) (ih _ _) | exact mono_trans (note_mono S _) (mono_refl _ _) | exact ih _ _ | exact burst_mono S _
  | layC s t k ih => intro a S; cases a <;> unfold prApp <;> first | exact mono_refl S _ | (split <;> first | exact mono_refl S _ | exact ih _ _)
  | putA s t k ih => intro a S; cases a <;> unfold prApp <;> first | exact mono_refl S _ | (split <;> exact mono_refl S _)
  | putB s t head first k ih => intro a S; cases a <;> unfold prApp <;> first | exact mono_refl S _ | (split <;> exact mono_refl S _)
  | layB s t head k ih => intro a S; cases a <;> unfold prApp <;> exact mono_refl S _
  | helpA s t head first k ih => intro a S; cases a <;> unfold prApp <;> exact mono_refl S _
  | helpB s t first k ih => intro a S; cases a <;> unfold prApp <;> first | exact mono_refl S _ | (split <;> exact mono_refl S _)
  | again s t k ih => intro a S; cases a <;> unfold prApp <;> exact mono_refl S _
  | st6 w shard user deadline n gen t k ih => intro a S; cases a <;> unfold prApp <;> exact mono_refl S _
  | st7 w shard deadline n gen t k ih => intro a S; cases a <;> unfold prApp <;> exact mono_refl S _
end
end Go.Proofs.YtgemjjpmoejgdaaGreat
/- Compare and swap, in memory and as a step; a step that touches nothing. -/
namespace Go.Proofs.YtgemjjpmoejgdaaGreat
open Go.RowKit
set_option maxRecDepth 100000
set_option linter.unusedVariables false

set_option maxHeartbeats 400000 in
theorem u64_cas_hit (b o : Nat) (u v : Int) (w : World) (h : w.cell? ⟨b, o, none⟩ = some (.int .u64 u)) (hf : w.frozen? ⟨b, o, none⟩ = false) :
    Calls Tryz.prog 242 #[.pointer (some ⟨b, o, none⟩), .int .u64 u, .int .u64 v] w fun e w' => e = .returned (.bool true) ∧ w' = w.setCell ⟨b, o, none⟩ (.int .u64 v) := by
  have hl := run_call_cas_hit (P := Tryz.prog) Tryz.func264 (by kernel_rfl) (by kernel_rfl) (by kernel_rfl) .u64 (by kernel_rfl) (y := v) h hf
  go_enter Tryz.func242, Tryz.ntmps242
  go_wp2
  go_ret
  exact ⟨rfl, rfl⟩
set_option maxHeartbeats 400000 in
theorem u64_cas_miss (b o : Nat) (u old v : Int) (w : World) (h : w.cell? ⟨b, o, none⟩ = some (.int .u64 u)) (hf : w.frozen? ⟨b, o, none⟩ = false) (hne : u ≠ old) :
    Calls Tryz.prog 242 #[.pointer (some ⟨b, o, none⟩), .int .u64 old, .int .u64 v] w fun e w' => e = .returned (.bool false) ∧ w' = w := by
  have hl := run_call_cas_miss (P := Tryz.prog) Tryz.func264 (by kernel_rfl) (by kernel_rfl) (by kernel_rfl) .u64 (by kernel_rfl) (y := v) h hf hne
  go_enter Tryz.func242, Tryz.ntmps242
  go_wp2
  go_ret
  exact ⟨rfl, rfl⟩
set_option maxHeartbeats 400000 in
theorem arena_cas {E : G} {L : Lab} {S : St} {w : World} (h : Good E L S w) (i : Int) (old v : Nat) (hv : v < 18446744073709551616) (hc : (if S.get i = old then S.put i v else S.touch i).cnt ≤ 4611686018427387904) :
    Calls Tryz.prog 191 #[.pointer (some ⟨E.a, 0, none⟩), .int .i64 i, .int .u64 old, .int .u64 v] w fun e w' => e = .returned (.bool (decide (S.has i ∧ S.get i = old))) ∧ Good E L (if S.get i = old then S.put i v else S.touch i) w' ∧ Shr L w L w' := by
  by_cases hi : S.has i
  · obtain ⟨n, rfl, hn⟩ := St.has_nat hi
    have e2 : S.get n = S.m n := by unfold St.get; rw [if_pos hi]; simp
    rw [e2] at hc ⊢
    by_cases ho : S.m n = old
    · have hd : decide (S.has n ∧ S.m n = old) = true := by simp [hi, ho]
      rw [hd, if_pos ho] 
      rw [if_pos ho] at hc
      have e1 : S.put n v = { S with cnt := S.cnt + 1, m := fun j => if j = n then v else S.m j } := by unfold St.put; rw [if_pos hi]; simp
      rw [e1] at hc
      rw [e1]
      clear hd e2
      go_enter Tryz.func191, Tryz.ntmps191
      go_wp2_with fail
      refine (at_yes h n hn hc).mono ?_
      rintro e w' ⟨rfl, hg, hs⟩
      have hcell := hg.ar.c0 n hn
      have hfr := hg.ar.cf n hn
      have hp := hg.poke hn hv
      have hlc := h.lc
      have hcell2 : w'.cell? ⟨E.c, n, none⟩ = some (.int .u64 (old : Nat)) := by rw [← ho]; exact hcell
      have HC := Go.Lib.hid (u64_cas_hit E.c n old v w' hcell2 hfr)
      clear ho hcell hcell2 hfr
      go_wp2_with (go_at_call 242; refine HC.out.mono ?_; rintro e w'' ⟨rfl, rfl⟩)
      go_ret
      exact ⟨rfl, hp, hs.trans (Shr.set _ (by show 1 ≤ L E.c; omega) (by show L E.c < 8; omega))⟩
    · have hd : decide (S.has n ∧ S.m n = old) = false := by simp [ho]
      rw [hd, if_neg ho]
      rw [if_neg ho] at hc
      have e1 : S.touch n = { S with cnt := S.cnt + 1 } := by unfold St.touch; rw [if_pos hi]
      rw [e1] at hc
      rw [e1]
      clear hd e2
      go_enter Tryz.func191, Tryz.ntmps191
      go_wp2_with fail
      refine (at_yes h n hn hc).mono ?_
      rintro e w' ⟨rfl, hg, hs⟩
      have hcell := hg.ar.c0 n hn
      have HC := Go.Lib.hid (u64_cas_miss E.c n (S.m n : Nat) old v w' hcell (hg.ar.cf n hn) (by omega))
      clear ho hcell
      go_wp2_with (go_at_call 242; refine HC.out.mono ?_; rintro e w'' ⟨rfl, rfl⟩)
      go_ret
      exact ⟨rfl, hg, hs⟩
  · have hd : decide (S.has i ∧ S.get i = old) = false := by simp [hi]
    rw [hd]
    have e1 : (if S.get i = old then S.put i v else S.touch i) = S := by
      unfold St.put St.touch
      rw [if_neg hi, if_neg hi]
      split <;> rfl
    rw [e1]
    clear hd e1 hc
    go_enter Tryz.func191, Tryz.ntmps191
    go_wp2_with (refine (at_no h i hi).mono ?_; rintro e w' ⟨rfl, rfl⟩)
    go_ret
    exact ⟨rfl, h, Shr.refl _ _⟩

section
variable {ρ : Type} {cf : Cf} {R : ρ → Arg → St → St × Option (K ρ)} {E : G} {t : Nat}
set_option maxHeartbeats 1000000 in
theorem cas1 {n : Nat} {i : Int} {old v : Nat} {vk : Value} {c : C ρ} {L : Lab} {w : World} {S : St} {b0 b1 b2 b3 b4 : Nat} (hv : v < 18446744073709551616)
    (h0 : w.cell? ⟨b0, 0, none⟩ = some vk) (h1 : w.cell? ⟨b1, 0, none⟩ = some (.pointer (some ⟨E.a, 0, none⟩))) (h2 : w.cell? ⟨b2, 0, none⟩ = some (.int .i64 i)) (h3 : w.cell? ⟨b3, 0, none⟩ = some (.int .u64 old)) (h4 : w.cell? ⟨b4, 0, none⟩ = some (.int .u64 v))
    (hk : ConSim cf R E t isB n L w vk c) (hg : Good E L S w) (hbd : Bd (app cf R c (.b (decide (S.has i ∧ S.get i = old))) (if S.get i = old then S.put i v else S.touch i)).1) (hbt : (if S.get i = old then S.put i v else S.touch i).cnt ≤ 4611686018427387904)
    (l0 : L b0 = 0) (l1 : L b1 = 0) (l2 : L b2 = 0) (l3 : L b3 = 0) (l4 : L b4 = 0) :
    Calls Tryz.prog 190 #[.pointer (some ⟨b0, 0, none⟩), .pointer (some ⟨b1, 0, none⟩), .pointer (some ⟨b2, 0, none⟩), .pointer (some ⟨b3, 0, none⟩), .pointer (some ⟨b4, 0, none⟩)] w
      (Post cf R E t n L w (app cf R c (.b (decide (S.has i ∧ S.get i = old))) (if S.get i = old then S.put i v else S.touch i))) := by
  obtain ⟨f, cap, rfl, hf, hk⟩ := hk
  have HK := Go.Lib.hid hk
  clear hk
  have hf' : ∀ (args : Array Value) (w : World), (callFunc f args).run Tryz.prog w = .ok (.enter f args) w := hf
  have HAC := Go.Lib.hid (arena_cas hg.drew i old v hv hbt)
  clear hg hbt
  generalize (if S.get i = old then S.put i v else S.touch i) = T at *
  generalize decide (S.has i ∧ S.get i = old) = d at *
  go_enter Tryz.func190, Tryz.ntmps190
  go_wp2_with fail
  go_region_held3 (fun w' => w'.cell? ⟨b0, 0, none⟩ = some (.func (.func f) #[] cap) ∧ w'.cell? ⟨b1, 0, none⟩ = some (.pointer (some ⟨E.a, 0, none⟩)) ∧ w'.cell? ⟨b2, 0, none⟩ = some (.int .i64 i) ∧ w'.cell? ⟨b3, 0, none⟩ = some (Value.int .u64 ((old : Nat) : Int)) ∧ w'.cell? ⟨b4, 0, none⟩ = some (Value.int .u64 ((v : Nat) : Int)))
    (first | exact ⟨h0, h1, h2, h3, h4⟩ | exact ⟨hs1.cell h0 (.inl l0), hs1.cell h1 (.inl l1), hs1.cell h2 (.inl l2), hs1.cell h3 (.inl l3), hs1.cell h4 (.inl l4)⟩ | exact ⟨hd2.cell0 (hs1.cell h0 (.inl l0)) l0, hd2.cell0 (hs1.cell h1 (.inl l1)) l1, hd2.cell0 (hs1.cell h2 (.inl l2)) l2, hd2.cell0 (hs1.cell h3 (.inl l3)) l3, hd2.cell0 (hs1.cell h4 (.inl l4)) l4⟩)
    (first
    | (go_at_call 191; refine HAC.out.mono ?_; rintro e w1 ⟨rfl, hg1, hs1⟩)
    | (go_at_fn f; refine (HK.out (.b d) _ _ _ trivial ((below_ext ((Below.refl _ w).drew) t L).trans (hs1.ext t)) hg1 hbd).mono ?_; rintro e w2 ⟨v2, L2, rfl, hd2, hg2, hc2⟩))
  go_wp2
  go_ret
  exact ⟨v2, L2, rfl, (((below_did ((Below.refl _ w).drew) t L).trans (hs1.did t))).trans hd2, hg2, hc2⟩
theorem enters_cas1 : EntersF 190 := enters_of Tryz.func190 (by kernel_rfl) rfl
theorem below_five {w : World} (o0 o1 o2 o3 o4 : Obj) : Below w.heap.size w (((((w.alloc o0).alloc o1).alloc o2).alloc o3).alloc o4) :=
  (((((Below.refl _ _).alloc (Nat.le_refl _) _).alloc (by simp) _).alloc (by simp; omega) _).alloc (by simp; omega) _).alloc (by simp; omega) _
set_option maxHeartbeats 1000000 in
theorem cas_any (hR : RMono R) {n : Nat} {i : Int} {old v : Nat} {vk : Value} {c : C ρ} {L : Lab} {w : World} {S : St} (hv : v < 18446744073709551616)
    (hg : Good E L S w) (hk : ConSim cf R E t isB n L w vk c) :
    Calls Tryz.prog 104 #[.pointer (some ⟨E.a, 0, none⟩), .int .i64 i, .int .u64 old, .int .u64 v, vk] w (Post cf R E t (n + 1) L w (S, some (.cas i old v c))) := by
  obtain ⟨f, cap, rfl, hfe, hk⟩ := hk
  have HK := Go.Lib.hid hk
  have HF := Go.Lib.hid hfe
  clear hk hfe
  go_enter Tryz.func104, Tryz.ntmps104
  go_wp2
  go_ret
  have hb := below_five (w := w) (.cells #[.pointer (some ⟨E.a, 0, none⟩)] 57) (.cells #[.int .i64 i] 3) (.cells #[.int .u64 old] 92) (.cells #[.int .u64 v] 92) (.cells #[.func (.func f) #[] cap] 114)
  have z0 := hg.new w.heap.size (Nat.le_refl _)
  have z1 := hg.new (w.heap.size + 1) (by omega)
  have z2 := hg.new (w.heap.size + 1 + 1) (by omega)
  have z3 := hg.new (w.heap.size + 1 + 1 + 1) (by omega)
  have z4 := hg.new (w.heap.size + 1 + 1 + 1 + 1) (by omega)
  refine ⟨_, L, rfl, below_did hb t L, hg.below hb, 190, _, rfl, enters_cas1, fun L' w' S' hx hg' hbd => ?_⟩
  have hbs : Bd (if S'.get i = old then S'.put i v else S'.touch i) := Bd.of_app hR hbd
  exact cas1 hv (hx.cell0 (by go_simp) z4) (hx.cell0 (by go_simp) z0) (hx.cell0 (by go_simp) z1) (hx.cell0 (by go_simp) z2) (hx.cell0 (by go_simp) z3) ⟨f, cap, rfl, HF.out, fun a L2 w2 S2 q1 q2 => HK.out a L2 w2 S2 q1 (((below_ext hb t L).trans hx).trans q2)⟩ hg' hbd hbs.cnt
    ((hx.lab _ (by simp)).trans z4) ((hx.lab _ (by first | (simp; done) | (simp; omega))).trans z0) ((hx.lab _ (by first | (simp; done) | (simp; omega))).trans z1) ((hx.lab _ (by first | (simp; done) | (simp; omega))).trans z2) ((hx.lab _ (by simp)).trans z3)
set_option maxHeartbeats 1000000 in
theorem idle1 {n : Nat} {vk : Value} {c : C ρ} {L : Lab} {w : World} {S : St} {b0 : Nat} (h0 : w.cell? ⟨b0, 0, none⟩ = some vk)
    (hk : ConSim cf R E t isU n L w vk c) (hg : Good E L S w) (hbd : Bd (app cf R c .u S).1) :
    Calls Tryz.prog 183 #[.pointer (some ⟨b0, 0, none⟩)] w (Post cf R E t n L w (app cf R c .u S)) := by
  obtain ⟨f, cap, rfl, hf, hk⟩ := hk
  have hku := ConSim.unit hk
  have HK := Go.Lib.hid hku
  clear hk hku
  have hf' : ∀ (args : Array Value) (w : World), (callFunc f args).run Tryz.prog w = .ok (.enter f args) w := hf
  go_enter Tryz.func183, Tryz.ntmps183
  go_wp2_with (go_at_fn f; refine (HK.out _ _ _ (Ext.refl _ _ _) hg hbd).mono ?_; rintro e w2 ⟨v2, L2, rfl, hd2, hg2, hc2⟩)
  go_ret
  exact ⟨v2, L2, rfl, hd2, hg2, hc2⟩
theorem enters_idle1 : EntersF 183 := enters_of Tryz.func183 (by kernel_rfl) rfl
set_option maxHeartbeats 1000000 in
theorem idle_any {n : Nat} {vk : Value} {c : C ρ} {L : Lab} {w : World} {S : St} (hg : Good E L S w) (hk : ConSim cf R E t isU n L w vk c) :
    Calls Tryz.prog 88 #[vk] w (Post cf R E t (n + 1) L w (S, some (.idle c))) := by
  obtain ⟨f, cap, rfl, hfe, hk⟩ := hk
  have HK := Go.Lib.hid hk
  have HF := Go.Lib.hid hfe
  clear hk hfe
  go_enter Tryz.func88, Tryz.ntmps88
  go_wp2
  go_ret
  have hb : Below w.heap.size w (w.alloc (.cells #[.func (.func f) #[] cap] 43)) := (Below.refl _ _).alloc (Nat.le_refl _) _
  have z0 := hg.new w.heap.size (Nat.le_refl _)
  refine ⟨_, L, rfl, below_did hb t L, hg.below hb, 183, _, rfl, enters_idle1, fun L' w' S' hx hg' hbd => ?_⟩
  exact idle1 (hx.cell0 (by go_simp) z0) ⟨f, cap, rfl, HF.out, fun a L2 w2 S2 q1 q2 => HK.out a L2 w2 S2 q1 (((below_ext hb t L).trans hx).trans q2)⟩ hg' hbd
end
end Go.Proofs.YtgemjjpmoejgdaaGreat
/- A stack's steps: pop and push. -/
namespace Go.Proofs.YtgemjjpmoejgdaaGreat
open Go.RowKit
set_option maxRecDepth 100000
set_option linter.unusedVariables false

set_option maxHeartbeats 1000000 in
theorem word_HeadIn (count index : Int) (w : World) (h0 : count < 9223372036854775808) (h1 : -1 ≤ index) (h2 : index < 4294967295) :
    Calls Tryz.prog 192 #[.agg #[.int .i64 count, .int .i64 index]] w fun e w' => e = .returned (.tuple #[.int .u64 (packed [32, 32] [count, index + 1]).1, .int .i64 (packed [32, 32] [count, index + 1]).2]) ∧ Below w.heap.size w w' := by
  go_enter Tryz.func192, Tryz.ntmps192
  go_wp2_with fail
  refine (pack_any [32, 32] [count, index + 1] _ _ _ _ _ rfl (by decide) (by decide) (by decide) (by intro j hj; match j, hj with | 0, _ => exact h0 | 1, _ => exact (by show index + 1 < _; omega)) (by intro j hj; match j, hj with | 0, _ => go_simp | 1, _ => go_simp) (by intro j hj; match j, hj with | 0, _ => go_simp | 1, _ => go_simp)).mono ?_
  rintro e w' ⟨rfl, rfl⟩
  go_wp2
  go_ret2
  refine ⟨rfl, ?_⟩
  exact (((Below.refl _ _).alloc (Nat.le_refl _) _).alloc (by simp) _).alloc (by simp; omega) _
set_option maxHeartbeats 1000000 in
theorem word_HeadOut (count index : Int) (w : World) (h : index < -1 ∨ 4294967295 ≤ index) :
    Calls Tryz.prog 192 #[.agg #[.int .i64 count, .int .i64 index]] w fun e w' => e = .returned (.tuple #[.int .u64 0, .int .i64 2]) ∧ Below w.heap.size w w' := by
  by_cases h1 : index < -1
  · go_enter Tryz.func192, Tryz.ntmps192
    go_wp2
    go_ret2
    exact ⟨rfl, (Below.refl _ _).alloc (Nat.le_refl _) _⟩
  · have h2 : 4294967295 ≤ index := by omega
    go_enter Tryz.func192, Tryz.ntmps192
    go_wp2
    go_ret2
    exact ⟨rfl, (Below.refl _ _).alloc (Nat.le_refl _) _⟩
theorem and_low32_i64 (a : Nat) (ha : a < 9223372036854775808) : bits .and .i64 (a : Int) 4294967295 = ((a % 4294967296 : Nat) : Int) := by
  have hm : a &&& 4294967295 = a % 4294967296 := Nat.and_two_pow_sub_one_eq_mod a 32
  have h1 : (BitVec.ofInt 64 (a : Int)).toNat = a := by
    rw [BitVec.ofInt_natCast, BitVec.toNat_ofNat]; exact Nat.mod_eq_of_lt (by omega)
  have h2 : (BitVec.ofInt 64 ((4294967295 : Nat) : Int)).toNat = 4294967295 := by
    rw [BitVec.ofInt_natCast, BitVec.toNat_ofNat]
  show IntKind.i64.wrap ((BitVec.ofInt 64 (a : Int) &&& BitVec.ofInt 64 ((4294967295 : Nat) : Int)).toNat : Int) = _
  rw [BitVec.toNat_and, h1, h2, hm]
  exact IntWalk.i64_in _ (by omega)
theorem headPacked_in (count index : Int) (h : ¬ (index < -1 ∨ 4294967295 ≤ index)) : headPacked count index = packed [32, 32] [count, index + 1] := if_neg h
theorem headPacked_out (count index : Int) (h : index < -1 ∨ 4294967295 ≤ index) : headPacked count index = (0, 2) := if_pos h
theorem word_HeadAny (count index : Int) (w : World) (h0 : count < 9223372036854775808) :
    Calls Tryz.prog 192 #[.agg #[.int .i64 count, .int .i64 index]] w fun e w' => e = .returned (.tuple #[.int .u64 (headPacked count index).1, .int .i64 (headPacked count index).2]) ∧ Below w.heap.size w w' := by
  by_cases h : index < -1 ∨ 4294967295 ≤ index
  · rw [headPacked_out _ _ h]
    exact word_HeadOut count index w h
  · rw [headPacked_in _ _ h]
    exact word_HeadIn count index w h0 (by omega) (by omega)
theorem turned_eq (old : Nat) (first : Int) : turned old first = (headPacked (((headCnt old + 1) % 4294967296 : Nat) : Int) first).1 := rfl
set_option maxHeartbeats 1000000 in
theorem stack_turned (old : Nat) (h64 : old < 18446744073709551616) (first : Int) (w : World) :
    Calls Tryz.prog 105 #[.int .u64 old, .int .i64 first] w fun e w' => e = .returned (.int .u64 (turned old first : Nat)) ∧ Below w.heap.size w w' := by
  have hc : headCnt old < 4294967296 := by unfold headCnt part; exact Nat.mod_lt _ (by decide)
  have HO : Hid (∀ w, Calls Tryz.prog 102 #[.int .u64 old] w fun e w' => e = .returned (.agg #[.int .i64 (headCnt old : Nat), .int .i64 (headIdx old)]) ∧ Below w.heap.size w w') := fun w => of_HeadOf old w h64
  have HW : Hid (∀ w, Calls Tryz.prog 192 #[.agg #[.int .i64 ((headCnt old + 1) % 4294967296 : Nat), .int .i64 first]] w fun e w' => e = .returned (.tuple #[.int .u64 (turned old first : Nat), .int .i64 (headPacked (((headCnt old + 1) % 4294967296 : Nat) : Int) first).2]) ∧ Below w.heap.size w w') := fun w => word_HeadAny _ first w (by omega)
  generalize (headPacked (((headCnt old + 1) % 4294967296 : Nat) : Int) first).2 = e2 at *
  generalize turned old first = tw at *
  generalize headIdx old = ix at *
  generalize headCnt old = cn at *
  have hw1 : IntKind.i64.wrap ((cn : Int) + 1) = (cn : Int) + 1 := IntWalk.i64_in _ (by omega)
  have hand : bits BinOp.and IntKind.i64 ((cn : Int) + 1) 4294967295 = (((cn + 1) % 4294967296 : Nat) : Int) := by have := and_low32_i64 (cn + 1) (by omega); rwa [Int.natCast_add] at this
  have hfield : ∀ (a b : Int) (w : World), (Instr.field 154 (.agg #[.int .i64 a, .int .i64 b]) 0).run Tryz.prog w = .ok (.int .i64 a) w := fun _ _ _ => by kernel_rfl
  go_enter Tryz.func105, Tryz.ntmps105
  go_wp2_with fail
  refine (HO.out _).mono ?_
  rintro e w1 ⟨rfl, hb1⟩
  go_wp2_with fail
  refine (HW.out _).mono ?_
  rintro e w2 ⟨rfl, hb2⟩
  go_wp2
  go_ret
  exact ⟨rfl, hb1.trans (hb2.mono hb1.size)⟩
end Go.Proofs.YtgemjjpmoejgdaaGreat
/- Events: a Tick is right. -/
namespace Go.Proofs.YtgemjjpmoejgdaaGreat
open Go.RowKit
set_option maxRecDepth 100000
set_option linter.unusedVariables false

set_option maxHeartbeats 1000000 in
theorem tick_fields (T : Int) (w : World) :
    Calls Tryz.prog 259 #[.agg #[.int .i64 1, .int .i64 0, .int .i64 0, .int .i64 0, .int .i64 0, .int .i64 0, .int .i64 0, .int .i64 T, .int .i64 0, .int .i64 0, .bool false, .int .i64 0]] w fun e w' =>
      e = .returned (.tuple #[.int .i64 4, .bool true]) ∧ Below w.heap.size w w' := by
  go_enter Tryz.func259, Tryz.ntmps259
  go_wp2
  go_quiet (fail)
  go_wp2
  go_ret2
  exact ⟨rfl, ((Below.refl _ _).alloc (Nat.le_refl _) _).trans ⟨rfl, rfl, rfl, Nat.le_refl _, fun _ _ => rfl⟩⟩
set_option maxHeartbeats 1000000 in
theorem tick_counted (T : Int) (h : 0 ≤ T) (w : World) :
    Calls Tryz.prog 260 #[.agg #[.int .i64 1, .int .i64 0, .int .i64 0, .int .i64 0, .int .i64 0, .int .i64 0, .int .i64 0, .int .i64 T, .int .i64 0, .int .i64 0, .bool false, .int .i64 0]] w fun e w' =>
      e = .returned (.bool true) ∧ Below w.heap.size w w' := by
  have hm : ∀ w : World, Sem.run Tryz.prog (Builtin.min_ #[3, 3, 3, 3] 3 #[.int .i64 0, .int .i64 0, .int .i64 0, .int .i64 0]) w = .ok (.int .i64 0) w := fun w => by kernel_rfl
  go_enter Tryz.func260, Tryz.ntmps260
  go_wp2
  go_ret
  exact ⟨by simp, (Below.refl _ _).alloc (Nat.le_refl _) _⟩
set_option maxHeartbeats 1000000 in
theorem tick_bare (T : Int) (w : World) :
    Calls Tryz.prog 261 #[.agg #[.int .i64 1, .int .i64 0, .int .i64 0, .int .i64 0, .int .i64 0, .int .i64 0, .int .i64 0, .int .i64 T, .int .i64 0, .int .i64 0, .bool false, .int .i64 0], .int .i64 4] w fun e w' =>
      e = .returned (.agg #[.int .i64 1, .int .i64 0, .int .i64 0, .int .i64 0, .int .i64 0, .int .i64 0, .int .i64 0, .int .i64 0, .int .i64 0, .int .i64 0, .bool false, .int .i64 0]) ∧ Below w.heap.size w w' := by
  go_enter Tryz.func261, Tryz.ntmps261
  go_wp2
  refine wp_loop_rounds 4 ?_
  rw [rounds_succ]
  go_wp2
  rw [rounds_succ]
  go_wp2
  rw [rounds_succ]
  go_wp2
  rw [rounds_succ]
  go_wp2
  refine bodyPost_ret (v := .agg #[.int .i64 1, .int .i64 0, .int .i64 0, .int .i64 0, .int .i64 0, .int .i64 0, .int .i64 0, .int .i64 0, .int .i64 0, .int .i64 0, .bool false, .int .i64 0]) (by simp [results, Tryz.results261, go_sem]) rfl ⟨rfl, ?_⟩
  repeat (first | exact Below.refl _ _ | refine Below.setCell ?_ (by simp) _ | refine Below.alloc ?_ (by simp; omega) _ | refine Below.alloc ?_ (by simp) _ | refine Below.drew ?_)
set_option maxHeartbeats 4000000 in
theorem tick_right (T : Int) (h : 0 ≤ T) (w : World) :
    Calls Tryz.prog 235 #[.agg #[.int .i64 1, .int .i64 0, .int .i64 0, .int .i64 0, .int .i64 0, .int .i64 0, .int .i64 0, .int .i64 T, .int .i64 0, .int .i64 0, .bool false, .int .i64 0]] w fun e w' => e = .returned (.bool true) ∧ Below w.heap.size w w' := by
  have heq : ∀ w : World, Sem.run Tryz.prog (binOp BinOp.eql 101 (.agg #[.int .i64 1, .int .i64 0, .int .i64 0, .int .i64 0, .int .i64 0, .int .i64 0, .int .i64 0, .int .i64 0, .int .i64 0, .int .i64 0, .bool false, .int .i64 0]) (.agg #[.int .i64 1, .int .i64 0, .int .i64 0, .int .i64 0, .int .i64 0, .int .i64 0, .int .i64 0, .int .i64 0, .int .i64 0, .int .i64 0, .bool false, .int .i64 0])) w = .ok (.bool true) w := fun w => by kernel_rfl
  have e0 : (w.alloc (.cells #[.int .i64 1, .int .i64 0, .int .i64 0, .int .i64 0, .int .i64 0, .int .i64 0, .int .i64 0, .int .i64 T, .int .i64 0, .int .i64 0, .bool false, .int .i64 0] 101)).cell? ⟨w.heap.size, 0, none⟩ = some (.int .i64 1) := by go_simp
  have e1 : (w.alloc (.cells #[.int .i64 1, .int .i64 0, .int .i64 0, .int .i64 0, .int .i64 0, .int .i64 0, .int .i64 0, .int .i64 T, .int .i64 0, .int .i64 0, .bool false, .int .i64 0] 101)).cell? ⟨w.heap.size, 1, none⟩ = some (.int .i64 0) := by go_simp
  have e2 : (w.alloc (.cells #[.int .i64 1, .int .i64 0, .int .i64 0, .int .i64 0, .int .i64 0, .int .i64 0, .int .i64 0, .int .i64 T, .int .i64 0, .int .i64 0, .bool false, .int .i64 0] 101)).cell? ⟨w.heap.size, 2, none⟩ = some (.int .i64 0) := by go_simp
  have e3 : (w.alloc (.cells #[.int .i64 1, .int .i64 0, .int .i64 0, .int .i64 0, .int .i64 0, .int .i64 0, .int .i64 0, .int .i64 T, .int .i64 0, .int .i64 0, .bool false, .int .i64 0] 101)).cell? ⟨w.heap.size, 3, none⟩ = some (.int .i64 0) := by go_simp
  have e4 : (w.alloc (.cells #[.int .i64 1, .int .i64 0, .int .i64 0, .int .i64 0, .int .i64 0, .int .i64 0, .int .i64 0, .int .i64 T, .int .i64 0, .int .i64 0, .bool false, .int .i64 0] 101)).cell? ⟨w.heap.size, 4, none⟩ = some (.int .i64 0) := by go_simp
  have e5 : (w.alloc (.cells #[.int .i64 1, .int .i64 0, .int .i64 0, .int .i64 0, .int .i64 0, .int .i64 0, .int .i64 0, .int .i64 T, .int .i64 0, .int .i64 0, .bool false, .int .i64 0] 101)).cell? ⟨w.heap.size, 5, none⟩ = some (.int .i64 0) := by go_simp
  have e6 : (w.alloc (.cells #[.int .i64 1, .int .i64 0, .int .i64 0, .int .i64 0, .int .i64 0, .int .i64 0, .int .i64 0, .int .i64 T, .int .i64 0, .int .i64 0, .bool false, .int .i64 0] 101)).cell? ⟨w.heap.size, 6, none⟩ = some (.int .i64 0) := by go_simp
  have e7 : (w.alloc (.cells #[.int .i64 1, .int .i64 0, .int .i64 0, .int .i64 0, .int .i64 0, .int .i64 0, .int .i64 0, .int .i64 T, .int .i64 0, .int .i64 0, .bool false, .int .i64 0] 101)).cell? ⟨w.heap.size, 7, none⟩ = some (.int .i64 T) := by go_simp
  have e8 : (w.alloc (.cells #[.int .i64 1, .int .i64 0, .int .i64 0, .int .i64 0, .int .i64 0, .int .i64 0, .int .i64 0, .int .i64 T, .int .i64 0, .int .i64 0, .bool false, .int .i64 0] 101)).cell? ⟨w.heap.size, 8, none⟩ = some (.int .i64 0) := by go_simp
  have e9 : (w.alloc (.cells #[.int .i64 1, .int .i64 0, .int .i64 0, .int .i64 0, .int .i64 0, .int .i64 0, .int .i64 0, .int .i64 T, .int .i64 0, .int .i64 0, .bool false, .int .i64 0] 101)).cell? ⟨w.heap.size, 9, none⟩ = some (.int .i64 0) := by go_simp
  have e10 : (w.alloc (.cells #[.int .i64 1, .int .i64 0, .int .i64 0, .int .i64 0, .int .i64 0, .int .i64 0, .int .i64 0, .int .i64 T, .int .i64 0, .int .i64 0, .bool false, .int .i64 0] 101)).cell? ⟨w.heap.size, 10, none⟩ = some (.bool false) := by go_simp
  have e11 : (w.alloc (.cells #[.int .i64 1, .int .i64 0, .int .i64 0, .int .i64 0, .int .i64 0, .int .i64 0, .int .i64 0, .int .i64 T, .int .i64 0, .int .i64 0, .bool false, .int .i64 0] 101)).cell? ⟨w.heap.size, 11, none⟩ = some (.int .i64 0) := by go_simp
  have hB : Below w.heap.size w (w.alloc (.cells #[.int .i64 1, .int .i64 0, .int .i64 0, .int .i64 0, .int .i64 0, .int .i64 0, .int .i64 0, .int .i64 T, .int .i64 0, .int .i64 0, .bool false, .int .i64 0] 101)) := (Below.refl _ _).alloc (Nat.le_refl _) _
  have HF := Go.Lib.hid (tick_fields T)
  have HC := Go.Lib.hid (tick_counted T h)
  have HBR := Go.Lib.hid (tick_bare T)
  go_enter Tryz.func235, Tryz.ntmps235
  go_wp2_with fail
  generalize (w.alloc (.cells #[.int .i64 1, .int .i64 0, .int .i64 0, .int .i64 0, .int .i64 0, .int .i64 0, .int .i64 0, .int .i64 T, .int .i64 0, .int .i64 0, .bool false, .int .i64 0] 101)) = W at *
  generalize hgb : w.heap.size = b at *
  replace hgb := Go.Lib.hid hgb
  refine (HF.out _).mono ?_
  rintro e w1 ⟨rfl, hb⟩
  have e0 := below_cell hb e0
  have e1 := below_cell hb e1
  have e2 := below_cell hb e2
  have e3 := below_cell hb e3
  have e4 := below_cell hb e4
  have e5 := below_cell hb e5
  have e6 := below_cell hb e6
  have e7 := below_cell hb e7
  have e8 := below_cell hb e8
  have e9 := below_cell hb e9
  have e10 := below_cell hb e10
  have e11 := below_cell hb e11
  have hB1 := hB.trans (hb.mono (by rw [← hgb.out]; exact hB.size))
  clear hb hB
  go_wp2_with fail
  refine (HC.out _).mono ?_
  rintro e w2 ⟨rfl, hb⟩
  have e0 := below_cell hb e0
  have e1 := below_cell hb e1
  have e2 := below_cell hb e2
  have e3 := below_cell hb e3
  have e4 := below_cell hb e4
  have e5 := below_cell hb e5
  have e6 := below_cell hb e6
  have e7 := below_cell hb e7
  have e8 := below_cell hb e8
  have e9 := below_cell hb e9
  have e10 := below_cell hb e10
  have e11 := below_cell hb e11
  have hB2 := hB1.trans (hb.mono (by rw [← hgb.out]; exact hB1.size))
  clear hb hB1
  go_wp2
  go_region_held3 (fun w' => w'.cell? ⟨b, 0, none⟩ = some (.int .i64 1) ∧ w'.cell? ⟨b, 1, none⟩ = some (.int .i64 0) ∧ w'.cell? ⟨b, 2, none⟩ = some (.int .i64 0) ∧ w'.cell? ⟨b, 3, none⟩ = some (.int .i64 0) ∧ w'.cell? ⟨b, 4, none⟩ = some (.int .i64 0) ∧ w'.cell? ⟨b, 5, none⟩ = some (.int .i64 0) ∧ w'.cell? ⟨b, 6, none⟩ = some (.int .i64 0) ∧ w'.cell? ⟨b, 7, none⟩ = some (.int .i64 T) ∧ w'.cell? ⟨b, 8, none⟩ = some (.int .i64 0) ∧ w'.cell? ⟨b, 9, none⟩ = some (.int .i64 0) ∧ w'.cell? ⟨b, 10, none⟩ = some (.bool false) ∧ w'.cell? ⟨b, 11, none⟩ = some (.int .i64 0))
    (first | exact ⟨e0, e1, e2, e3, e4, e5, e6, e7, e8, e9, e10, e11⟩)
    (first
    | (go_at_call 261; refine (HBR.out _).mono ?_; rintro e w3 ⟨rfl, hb0⟩; have e0 := below_cell hb0 e0; have e1 := below_cell hb0 e1; have e2 := below_cell hb0 e2; have e3 := below_cell hb0 e3; have e4 := below_cell hb0 e4; have e5 := below_cell hb0 e5; have e6 := below_cell hb0 e6; have e7 := below_cell hb0 e7; have e8 := below_cell hb0 e8; have e9 := below_cell hb0 e9; have e10 := below_cell hb0 e10; have e11 := below_cell hb0 e11; have hB3 : Below b w w3 := (by first | exact hB2.trans (hb0.mono (by rw [← hgb.out]; exact hB2.size)) | exact hB2.drew.trans (hb0.mono (by rw [← hgb.out]; exact hB2.size)))))
  all_goals
    go_wp2
    go_ret
    exact ⟨rfl, hgb.out ▸ (by first | exact hB3 | exact hB3.drew)⟩
end Go.Proofs.YtgemjjpmoejgdaaGreat
/- Rounding, and the configuration. -/
namespace Go.Proofs.YtgemjjpmoejgdaaGreat
open Go.RowKit
set_option maxRecDepth 100000
set_option linter.unusedVariables false

theorem clockI_bd (t : Int) : 0 ≤ clockI t ∧ clockI t ≤ 1073741823 := by unfold clockI; omega

set_option maxHeartbeats 400000 in
theorem clock_any (t : Int) (w : World) :
    Calls Tryz.prog 195 #[.int .i64 t] w fun e w' => e = .returned (.int .i64 (clockI t)) ∧ w' = w := by
  unfold clockI
  by_cases h0 : t < 0
  · have e : min (max t 0) 1073741823 = 0 := by omega
    rw [e]
    go_enter Tryz.func195, Tryz.ntmps195
    go_wp2
    go_ret
    exact ⟨by simp <;> omega, rfl⟩
  · by_cases h1 : t ≤ 1073741823
    · have e : min (max t 0) 1073741823 = t := by omega
      rw [e]
      go_enter Tryz.func195, Tryz.ntmps195
      go_wp2
      go_ret
      exact ⟨by simp <;> omega, rfl⟩
    · have e : min (max t 0) 1073741823 = 1073741823 := by omega
      rw [e]
      go_enter Tryz.func195, Tryz.ntmps195
      go_wp2
      go_ret
      exact ⟨by simp <;> omega, rfl⟩

set_option maxHeartbeats 400000 in
theorem up_any (d s : Int) (w : World) :
    Calls Tryz.prog 109 #[.int .i64 d, .int .i64 s] w (Qt (.int .i64 (upI d s)) w) := by
  have h1 := clockI_bd d
  have h2 := clockI_bd s
  have hu : upI d s = (clockI d + (clockI s + 1) - 1) / (clockI s + 1) * (clockI s + 1) := rfl
  rw [hu]
  generalize hcd : clockI d = x at *
  generalize hcs : clockI s = y at *
  have h3 : 0 ≤ (x + (y + 1) - 1) / (y + 1) * (y + 1) := Int.mul_nonneg (Int.ediv_nonneg (by omega) (by omega)) (by omega)
  have h4 : (x + (y + 1) - 1) / (y + 1) * (y + 1) ≤ x + (y + 1) - 1 := Int.ediv_mul_le _ (by omega)
  have HX := Go.Lib.hid (hcd ▸ clock_any d : ∀ w, Calls Tryz.prog 195 #[.int .i64 d] w fun e w' => e = .returned (.int .i64 x) ∧ w' = w)
  have HY := Go.Lib.hid (hcs ▸ clock_any s : ∀ w, Calls Tryz.prog 195 #[.int .i64 s] w fun e w' => e = .returned (.int .i64 y) ∧ w' = w)
  clear hcd hcs
  obtain ⟨a1, a2⟩ := h1
  obtain ⟨b1, b2⟩ := h2
  go_enter Tryz.func109, Tryz.ntmps109
  go_wp2_with fail
  refine (HY.out _).mono ?_
  rintro e w' ⟨rfl, rfl⟩
  go_wp2_with fail
  refine (HX.out _).mono ?_
  rintro e w' ⟨rfl, rfl⟩
  go_wp2
  go_ret
  exact ⟨by simp, 0, rfl⟩

def Cf.vals (c : Cf) : Array Value := #[.int .i64 c.workers, .int .i64 c.levels, .int .i64 c.bits, .int .i64 c.nodes, .int .i64 c.tickets, .int .i64 c.slack, .int .i64 c.first, .int .i64 c.conns, .int .i64 c.timeout, .int .i64 c.base, .int .i64 c.cap, .int .i64 c.jitter, .int .i64 c.attempts]

set_option maxHeartbeats 1000000 in
theorem plan_config (c : Cf) (p : Nat) (w : World) (h : PlanAt w p c) :
    Calls Tryz.prog 182 #[.pointer (some ⟨p, 0, none⟩)] w fun e w' => e = .returned (.agg c.vals) ∧ Below w.heap.size w w' := by
  have hp := cell_lt h.c0
  obtain ⟨c0, c1, c2, c3, c4, c5, c6, c7, c8, c9, c10, c11, c12, c13, c14, c15, c16, c17⟩ := h
  go_enter Tryz.func182, Tryz.ntmps182
  go_wp2
  refine bodyPost_ret (v := .agg c.vals) (by simp [results, Tryz.results182, go_sem, Cf.vals]) rfl ⟨rfl, (Below.refl _ _).alloc (Nat.le_refl _) _⟩

set_option maxHeartbeats 1000000 in
theorem core_config {E : G} {L : Lab} {S : St} {w : World} (hg : Good E L S w) :
    Calls Tryz.prog 87 #[.pointer (some ⟨E.k, 0, none⟩)] w fun e w' => e = .returned (.agg E.cf.vals) ∧ Below w.heap.size w w' := by
  have k0 := hg.k0
  have q0 := cell_lt k0
  have hpl := hg.pl
  have HPL := Go.Lib.hid (hpl.mono (Below.heap_alloc w (.cells #[.int .i64 0, .int .i64 0, .int .i64 0, .int .i64 0, .int .i64 0, .int .i64 0, .int .i64 0, .int .i64 0, .int .i64 0, .int .i64 0, .int .i64 0, .int .i64 0, .int .i64 0] 126) E.p (cell_lt hpl.c0)))
  clear hpl
  go_enter Tryz.func87, Tryz.ntmps87
  go_wp2_with fail
  refine (plan_config E.cf E.p _ HPL.out).mono ?_
  rintro e w' ⟨rfl, hb⟩
  obtain ⟨hc, hf⟩ := bcells hb
  have hz : w.heap.size < w'.heap.size := by have := hb.size; simp at this; omega
  have HB := Go.Lib.hid (((Below.refl _ w).alloc (Nat.le_refl _) _).trans (hb.mono (by simp)))
  clear hb
  unfold Cf.vals
  go_wp2
  refine bodyPost_ret (v := .agg E.cf.vals) (by simp [results, Tryz.results87, go_sem, Cf.vals, hc]) rfl ⟨by unfold Cf.vals; rfl, ?_⟩
  exact (((((((((((((HB.out.setCell (by simp) _).setCell (by simp) _).setCell (by simp) _).setCell (by simp) _).setCell (by simp) _).setCell (by simp) _).setCell (by simp) _).setCell (by simp) _).setCell (by simp) _).setCell (by simp) _).setCell (by simp) _).setCell (by simp) _).setCell (by simp) _)
end Go.Proofs.YtgemjjpmoejgdaaGreat
