/- The pure machine: what each step of a program does to the cells and the history. -/
import Derived.Test.YtlbjjooiiikmjaaP
namespace Go.Proofs.Ytlbjjooiiikmjaa
open Go.RowKit
set_option linter.unusedVariables false

/-- A word's part. -/
def part (x s n : Nat) : Nat := x / 2 ^ s % 2 ^ n
/-- int(v) of a uint64; uint64(i) of an int. -/
def toI (v : Nat) : Int := wrap64 v
def toU (i : Int) : Nat := (i % 18446744073709551616).toNat

def wsum (ws : List Nat) (k : Nat) : Nat := (ws.take k).sum
def packAcc (ws : List Nat) (ns : List Int) : Nat → Nat
  | 0 => 0
  | k + 1 => packAcc ws ns k + (ns.getD k 0).toNat * 2 ^ (64 - wsum ws (k + 1))
/-- Does the number go into its width? -/
def fits (n : Int) (w : Nat) : Bool := decide (0 ≤ n ∧ n < 2 ^ w)
/-- What 'pack' hands back. -/
def packed (ws : List Nat) (ns : List Int) : Nat × Int := if (List.range ws.length).all (fun j => fits (ns.getD j 0) (ws.getD j 0)) then (packAcc ws ns ws.length, 0) else (0, 2)

def keyWord (gen version node : Int) : Nat := (packed [32, 16, 16] [gen, version, node]).1
def homeWord (gen version shard : Int) : Nat := (packed [32, 16, 16] [gen, version, shard]).1
def stateWord (gen time status : Int) : Nat := (packed [32, 30, 2] [gen, time, status]).1
def connWord (version attempt status time : Int) : Nat := (packed [26, 5, 3, 30] [version, attempt, status, time]).1
def headPacked (count index : Int) : Nat × Int := if index < -1 ∨ 4294967295 ≤ index then (0, 2) else packed [32, 32] [count, index + 1]
def headWord (count index : Int) : Nat := (headPacked count index).1
def headIdx (w : Nat) : Int := (part w 0 32 : Nat) - 1
def headCnt (w : Nat) : Nat := part w 32 32
/-- The word of a head whose first thing is another one, behind a word that was read. -/
def turned (old : Nat) (first : Int) : Nat := headWord (((headCnt old + 1) % 4294967296 : Nat) : Int) first

def clockI (t : Int) : Int := min (max t 0) 1073741823
/-- When a timer with a deadline is due. -/
def upI (deadline slack : Int) : Int := (clockI deadline + (clockI slack + 1) - 1) / (clockI slack + 1) * (clockI slack + 1)

/-- What a continuation is handed. -/
inductive Arg where
  | u
  | w (x : Nat)
  | b (x : Bool)
  | i (x : Int)
  | pop (i : Int) (ok : Bool)
  | head (read : Nat) (first : Int)
  | key (gen version node due : Int)
  | he (node gen : Int) (e : Int)
  | e (e : Int)

def Arg.vals : Arg → Array Value
  | .u => #[]
  | .w x => #[.int .u64 x]
  | .b x => #[.bool x]
  | .i x => #[.int .i64 x]
  | .pop x y => #[.int .i64 x, .bool y]
  | .head x y => #[.int .u64 x, .int .i64 y]
  | .key x y z t => #[.agg #[.int .i64 x, .int .i64 y, .int .i64 z], .int .i64 t]
  | .he x y z => #[.agg #[.int .i64 x, .int .i64 y], .int .i64 z]
  | .e x => #[.int .i64 x]

inductive Stk where
  | nodes | tickets
  deriving DecidableEq

/-- What is done next: the closures that the programs make, with what they have captured. -/
inductive C (ρ : Type) where
  | ret (r : ρ)
  | popA (st : Stk) (k : C ρ)
  | popB (st : Stk) (head : Nat) (first : Int) (k : C ρ)
  | popC (st : Stk) (first : Int) (k : C ρ)
  | pushA (st : Stk) (i : Int) (k : C ρ)
  | pushB (st : Stk) (i : Int) (head : Nat) (k : C ρ)
  | pushC (st : Stk) (i : Int) (k : C ρ)
  | deadA (k : C ρ)
  | deadB (gen : Int) (k : C ρ)
  | writeA (t due : Int) (k : C ρ)
  | readA (t : Int) (k : C ρ)
  | readB (key : Nat) (k : C ρ)

inductive K (ρ : Type) where
  | load (i : Int) (k : C ρ)
  | store (i : Int) (v : Nat) (k : C ρ)
  | swap (i : Int) (v : Nat) (k : C ρ)
  | cas (i : Int) (old v : Nat) (k : C ρ)
  | idle (k : C ρ)

section
variable {ρ : Type} (cf : Cf) (R : ρ → Arg → St → St × Option (K ρ))

def Stk.head : Stk → Int
  | .nodes => 1
  | .tickets => 2
def Stk.link (cf : Cf) : Stk → Int → Int
  | .nodes => cf.nodeLink
  | .tickets => cf.ticketLink

def popK (st : Stk) (k : C ρ) : K ρ := .load st.head (.popA st k)
def pushK (st : Stk) (i : Int) (k : C ρ) : K ρ := .load st.head (.pushA st i k)
def deadK (t : Int) (k : C ρ) : K ρ := .load (cf.key t) (.deadA k)
def writeK (t gen version node deadline : Int) (k : C ρ) : K ρ := .store (cf.key t) (keyWord gen version node) (.writeA t (upI deadline cf.slack) k)
def readK (t : Int) (k : C ρ) : K ρ := .load (cf.key t) (.readA t k)

def app : C ρ → Arg → St → St × Option (K ρ)
  | .ret r, a, S => R r a S
  | .popA st k, .w head, S => if headIdx head < 0 then app k (.pop (-1) false) S else (S, some (.load (st.link cf (headIdx head)) (.popB st head (headIdx head) k)))
  | .popB st head first k, .w next, S => (S, some (.cas st.head head (turned head (wrap64 (toI next - 1))) (.popC st first k)))
  | .popC st first k, .b ok, S => if ok then app k (.pop first true) S else (S, some (popK st k))
  | .pushA st i k, .w head, S => (S, some (.store (st.link cf i) (toU (headIdx head + 1)) (.pushB st i head k)))
  | .pushB st i head k, .u, S => (S, some (.cas st.head head (turned head i) (.pushC st i k)))
  | .pushC st i k, .b ok, S => if ok then app k .u S else (S, some (pushK st i k))
  | .deadA k, .w x, S => (S, some (.load (cf.state (part x 0 16 : Nat)) (.deadB (part x 32 32 : Nat) k)))
  | .deadB gen k, .w x, S => app k (.b (decide (¬ (part x 0 2 = 1) ∨ ¬ (((part x 32 32 : Nat) : Int) = gen)))) S
  | .writeA t due k, .u, S => (S, some (.store (cf.time t) (toU due) k))
  | .readA t k, .w key, S => (S, some (.load (cf.time t) (.readB key k)))
  | .readB key k, .w due, S => app k (.key (part key 32 32 : Nat) (part key 16 16 : Nat) (part key 0 16 : Nat) (toI due)) S
  | _, _, S => (S, none)

/-- One step. -/
def step : K ρ → St → St × Option (K ρ)
  | .load i k, S => app cf R k (.w (S.get i)) (S.touch i)
  | .store i v k, S => app cf R k .u (S.put i v)
  | .swap i v k, S => app cf R k (.w (S.get i)) (S.put i v)
  | .cas i old v k, S => app cf R k (.b (decide (S.has i ∧ S.get i = old))) (if S.get i = old then S.put i v else S.touch i)
  | .idle k, S => app cf R k .u S
end

/-- Is all still small enough? -/
structure Bd (S : St) : Prop where
  cnt : S.cnt ≤ 4611686018427387904
  log : S.log.length ≤ 1099511627776

/-- A caller's continuation forgets nothing. -/
def RMono {ρ : Type} (R : ρ → Arg → St → St × Option (K ρ)) : Prop := ∀ r a S, S.cnt ≤ (R r a S).1.cnt ∧ S.log.length ≤ (R r a S).1.log.length

theorem app_mono {ρ : Type} {cf : Cf} {R : ρ → Arg → St → St × Option (K ρ)} (hR : RMono R) : ∀ (c : C ρ) (a : Arg) (S : St), S.cnt ≤ (app cf R c a S).1.cnt ∧ S.log.length ≤ (app cf R c a S).1.log.length := by
  intro c
  induction c with
  | ret r => intro a S; unfold app; exact hR r a S
  | popA st k ih => intro a S; cases a <;> (unfold app; first | exact ⟨Nat.le_refl _, Nat.le_refl _⟩ | (split <;> first | exact ih _ _ | exact ⟨Nat.le_refl _, Nat.le_refl _⟩))
  | popB st head first k ih => intro a S; cases a <;> (unfold app; exact ⟨Nat.le_refl _, Nat.le_refl _⟩)
  | popC st first k ih => intro a S; cases a <;> (unfold app; first | exact ⟨Nat.le_refl _, Nat.le_refl _⟩ | (split <;> first | exact ih _ _ | exact ⟨Nat.le_refl _, Nat.le_refl _⟩))
  | pushA st i k ih => intro a S; cases a <;> (unfold app; exact ⟨Nat.le_refl _, Nat.le_refl _⟩)
  | pushB st i head k ih => intro a S; cases a <;> (unfold app; exact ⟨Nat.le_refl _, Nat.le_refl _⟩)
  | pushC st i k ih => intro a S; cases a <;> (unfold app; first | exact ⟨Nat.le_refl _, Nat.le_refl _⟩ | (split <;> first | exact ih _ _ | exact ⟨Nat.le_refl _, Nat.le_refl _⟩))
  | deadA k ih => intro a S; cases a <;> (unfold app; exact ⟨Nat.le_refl _, Nat.le_refl _⟩)
  | deadB gen k ih => intro a S; cases a <;> (unfold app; first | exact ih _ _ | exact ⟨Nat.le_refl _, Nat.le_refl _⟩)
  | writeA t due k ih => intro a S; cases a <;> (unfold app; exact ⟨Nat.le_refl _, Nat.le_refl _⟩)
  | readA t k ih => intro a S; cases a <;> (unfold app; exact ⟨Nat.le_refl _, Nat.le_refl _⟩)
  | readB key k ih => intro a S; cases a <;> (unfold app; first | exact ih _ _ | exact ⟨Nat.le_refl _, Nat.le_refl _⟩)

theorem Bd.of_app {ρ : Type} {cf : Cf} {R : ρ → Arg → St → St × Option (K ρ)} (hR : RMono R) {c : C ρ} {a : Arg} {S : St} (h : Bd (app cf R c a S).1) : Bd S :=
  ⟨Nat.le_trans (app_mono hR c a S).1 h.cnt, Nat.le_trans (app_mono hR c a S).2 h.log⟩
end Go.Proofs.Ytlbjjooiiikmjaa
