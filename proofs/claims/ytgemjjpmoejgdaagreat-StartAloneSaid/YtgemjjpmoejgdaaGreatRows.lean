/-
  No cell of these rows narrows 'for every input' (looked for: loops, veiled, ifaces, maps, wideKeys, modest, calm, conditions, laid).
  DERIVED. THE GIVEN ROWS OF THIS SEAT. 8 by the template 'for every input the law returns true; each argument reads behind the call as it read before'; 0 by the template 'total and deterministic' (their statements: YtgemjjpmoejgdaaGreatTotals.lean).
  GIVEN WITH THE SEED: the statements are not yours to turn. If you find one false, say at which input.
  Laid BY PROGRAM, IN A SANDBOX (cutbox-rows.mjs): the forced cells as the released guide's own fill.sh prints them over the translation f7dc56defc261b9a… (all of the seat's roots in one cut). By AI agents, Wed Nov 11 2026. No macro, syntax, notation, axiom, sorry.
-/
import Derived.Test.YtgemjjpmoejgdaaGreatChecked
import GoSem.Claim
import GoSem.ClaimJoined
import GoSem.ClaimMapViews
import Derived.JoinedTies
import Derived.KernelRfl
namespace Go.Proofs.YtgemjjpmoejgdaaGreat
/- THE CELL 'sum', in the pinned program and in every row, IS THE sha256 OF THE DUMP (.gsa) THAT YtgemjjpmoejgdaaGreatProg.lean LOADS. Nothing in Lean hashes anything: it is a label: what it is worth is what the hold of that sum in a sandbox is worth. -/
noncomputable def Tryz.pinned : Pinned := { name := "ytgemjjpmoejgdaagreat", sum := "f7dc56defc261b9a5475d6b9aaf176d10f68f7b24b02d31fd66530a4d6af8b78", checked := Tryz.checked }
namespace Rows
def none {H : Type} : Left H := { results := [], args := [] }

/-- 'knelllaw16.StartAlone': WHATEVER THE INPUT: true; the input reads as it did. -/
def startAloneSpec : ChangeSpec := { name := "startAlone", fn := fun _ => fun
  | [d1, d2, d3] => { results := [.lit (.bool true)], args := [d1, d2, d3] }
  | _ => none }
def startAloneRow : OpenClaim := { program := "ytgemjjpmoejgdaagreat", sum := "f7dc56defc261b9a5475d6b9aaf176d10f68f7b24b02d31fd66530a4d6af8b78", func := "knell/knelllaw16.StartAlone", spec := "startAlone", inPlace := ["sync/atomic.StoreUint64", "sync/atomic.AddInt64", "sync/atomic.CompareAndSwapUint64", "sync/atomic.LoadUint64", "sync/atomic.AddUint64"], unfollowed := true, recurses := true, apart := false }
def StartAloneSaid : Prop := startAloneRow.holds Tryz.pinned (OpenSpec.ofChange startAloneSpec)

/-- ITS FALSE NEIGHBOUR: 'it returns false'. Refute it at one input. -/
def startAloneWrong : ChangeSpec := { name := "startAlone", fn := fun _ => fun
  | [d1, d2, d3] => { results := [.lit (.bool false)], args := [d1, d2, d3] }
  | _ => none }
def StartAloneWrongFalsely : Prop := startAloneRow.holds Tryz.pinned (OpenSpec.ofChange startAloneWrong)

/-- 'knelllaw15.CoreApart': WHATEVER THE INPUT: true; the input reads as it did. -/
def coreApartSpec : ChangeSpec := { name := "coreApart", fn := fun _ => fun
  | [d1, d2, d3] => { results := [.lit (.bool true)], args := [d1, d2, d3] }
  | _ => none }
def coreApartRow : OpenClaim := { program := "ytgemjjpmoejgdaagreat", sum := "f7dc56defc261b9a5475d6b9aaf176d10f68f7b24b02d31fd66530a4d6af8b78", func := "knell/knelllaw15.CoreApart", spec := "coreApart", inPlace := ["sync/atomic.StoreUint64", "sync/atomic.AddInt64", "sync/atomic.LoadUint64", "sync/atomic.AddUint64", "sync/atomic.CompareAndSwapUint64", "sync/atomic.LoadInt64"], unfollowed := true, recurses := true, apart := false }
def CoreApartSaid : Prop := coreApartRow.holds Tryz.pinned (OpenSpec.ofChange coreApartSpec)

/-- ITS FALSE NEIGHBOUR: 'it returns false'. Refute it at one input. -/
def coreApartWrong : ChangeSpec := { name := "coreApart", fn := fun _ => fun
  | [d1, d2, d3] => { results := [.lit (.bool false)], args := [d1, d2, d3] }
  | _ => none }
def CoreApartWrongFalsely : Prop := coreApartRow.holds Tryz.pinned (OpenSpec.ofChange coreApartWrong)

/-- 'knelllaw18.MoveLeaves': WHATEVER THE INPUT: true; the input reads as it did. -/
def moveLeavesSpec : ChangeSpec := { name := "moveLeaves", fn := fun _ => fun
  | [d1, d2, d3, d4, d5, d6] => { results := [.lit (.bool true)], args := [d1, d2, d3, d4, d5, d6] }
  | _ => none }
def moveLeavesRow : OpenClaim := { program := "ytgemjjpmoejgdaagreat", sum := "f7dc56defc261b9a5475d6b9aaf176d10f68f7b24b02d31fd66530a4d6af8b78", func := "knell/knelllaw18.MoveLeaves", spec := "moveLeaves", inPlace := ["sync/atomic.StoreUint64", "sync/atomic.AddInt64", "sync/atomic.CompareAndSwapUint64", "sync/atomic.LoadUint64"], unfollowed := true, recurses := true, apart := false }
def MoveLeavesSaid : Prop := moveLeavesRow.holds Tryz.pinned (OpenSpec.ofChange moveLeavesSpec)

/-- ITS FALSE NEIGHBOUR: 'it returns false'. Refute it at one input. -/
def moveLeavesWrong : ChangeSpec := { name := "moveLeaves", fn := fun _ => fun
  | [d1, d2, d3, d4, d5, d6] => { results := [.lit (.bool false)], args := [d1, d2, d3, d4, d5, d6] }
  | _ => none }
def MoveLeavesWrongFalsely : Prop := moveLeavesRow.holds Tryz.pinned (OpenSpec.ofChange moveLeavesWrong)

/-- 'knelllaw18.MoveBack': WHATEVER THE INPUT: true; the input reads as it did. -/
def moveBackSpec : ChangeSpec := { name := "moveBack", fn := fun _ => fun
  | [d1, d2] => { results := [.lit (.bool true)], args := [d1, d2] }
  | _ => none }
def moveBackRow : OpenClaim := { program := "ytgemjjpmoejgdaagreat", sum := "f7dc56defc261b9a5475d6b9aaf176d10f68f7b24b02d31fd66530a4d6af8b78", func := "knell/knelllaw18.MoveBack", spec := "moveBack", inPlace := ["sync/atomic.StoreUint64", "sync/atomic.AddInt64", "sync/atomic.CompareAndSwapUint64", "sync/atomic.LoadUint64"], unfollowed := true, recurses := true, apart := false }
def MoveBackSaid : Prop := moveBackRow.holds Tryz.pinned (OpenSpec.ofChange moveBackSpec)

/-- ITS FALSE NEIGHBOUR: 'it returns false'. Refute it at one input. -/
def moveBackWrong : ChangeSpec := { name := "moveBack", fn := fun _ => fun
  | [d1, d2] => { results := [.lit (.bool false)], args := [d1, d2] }
  | _ => none }
def MoveBackWrongFalsely : Prop := moveBackRow.holds Tryz.pinned (OpenSpec.ofChange moveBackWrong)

/-- 'knelllaw17.ChangeStale': WHATEVER THE INPUT: true; the input reads as it did. -/
def changeStaleSpec : ChangeSpec := { name := "changeStale", fn := fun _ => fun
  | [d1, d2, d3] => { results := [.lit (.bool true)], args := [d1, d2, d3] }
  | _ => none }
def changeStaleRow : OpenClaim := { program := "ytgemjjpmoejgdaagreat", sum := "f7dc56defc261b9a5475d6b9aaf176d10f68f7b24b02d31fd66530a4d6af8b78", func := "knell/knelllaw17.ChangeStale", spec := "changeStale", inPlace := ["sync/atomic.StoreUint64", "sync/atomic.AddInt64", "sync/atomic.CompareAndSwapUint64", "sync/atomic.LoadUint64"], unfollowed := true, recurses := true, apart := false }
def ChangeStaleSaid : Prop := changeStaleRow.holds Tryz.pinned (OpenSpec.ofChange changeStaleSpec)

/-- ITS FALSE NEIGHBOUR: 'it returns false'. Refute it at one input. -/
def changeStaleWrong : ChangeSpec := { name := "changeStale", fn := fun _ => fun
  | [d1, d2, d3] => { results := [.lit (.bool false)], args := [d1, d2, d3] }
  | _ => none }
def ChangeStaleWrongFalsely : Prop := changeStaleRow.holds Tryz.pinned (OpenSpec.ofChange changeStaleWrong)

/-- 'knelllaw17.ChangeAlone': WHATEVER THE INPUT: true; the input reads as it did. -/
def changeAloneSpec : ChangeSpec := { name := "changeAlone", fn := fun _ => fun
  | [d1, d2, d3] => { results := [.lit (.bool true)], args := [d1, d2, d3] }
  | _ => none }
def changeAloneRow : OpenClaim := { program := "ytgemjjpmoejgdaagreat", sum := "f7dc56defc261b9a5475d6b9aaf176d10f68f7b24b02d31fd66530a4d6af8b78", func := "knell/knelllaw17.ChangeAlone", spec := "changeAlone", inPlace := ["sync/atomic.StoreUint64", "sync/atomic.AddInt64", "sync/atomic.CompareAndSwapUint64", "sync/atomic.LoadUint64", "sync/atomic.AddUint64"], unfollowed := true, recurses := true, apart := false }
def ChangeAloneSaid : Prop := changeAloneRow.holds Tryz.pinned (OpenSpec.ofChange changeAloneSpec)

/-- ITS FALSE NEIGHBOUR: 'it returns false'. Refute it at one input. -/
def changeAloneWrong : ChangeSpec := { name := "changeAlone", fn := fun _ => fun
  | [d1, d2, d3] => { results := [.lit (.bool false)], args := [d1, d2, d3] }
  | _ => none }
def ChangeAloneWrongFalsely : Prop := changeAloneRow.holds Tryz.pinned (OpenSpec.ofChange changeAloneWrong)

/-- 'knelllaw17.ChangeOne': WHATEVER THE INPUT: true; the input reads as it did. -/
def changeOneSpec : ChangeSpec := { name := "changeOne", fn := fun _ => fun
  | [d1, d2, d3, d4] => { results := [.lit (.bool true)], args := [d1, d2, d3, d4] }
  | _ => none }
def changeOneRow : OpenClaim := { program := "ytgemjjpmoejgdaagreat", sum := "f7dc56defc261b9a5475d6b9aaf176d10f68f7b24b02d31fd66530a4d6af8b78", func := "knell/knelllaw17.ChangeOne", spec := "changeOne", inPlace := ["sync/atomic.StoreUint64", "sync/atomic.AddInt64", "sync/atomic.CompareAndSwapUint64", "sync/atomic.LoadUint64", "sync/atomic.AddUint64", "sync/atomic.LoadInt64"], unfollowed := true, recurses := true, apart := false }
def ChangeOneSaid : Prop := changeOneRow.holds Tryz.pinned (OpenSpec.ofChange changeOneSpec)

/-- ITS FALSE NEIGHBOUR: 'it returns false'. Refute it at one input. -/
def changeOneWrong : ChangeSpec := { name := "changeOne", fn := fun _ => fun
  | [d1, d2, d3, d4] => { results := [.lit (.bool false)], args := [d1, d2, d3, d4] }
  | _ => none }
def ChangeOneWrongFalsely : Prop := changeOneRow.holds Tryz.pinned (OpenSpec.ofChange changeOneWrong)

/-- 'knelllaw18.MoveAlone': WHATEVER THE INPUT: true; the input reads as it did. -/
def moveAloneSpec : ChangeSpec := { name := "moveAlone", fn := fun _ => fun
  | [d1, d2, d3] => { results := [.lit (.bool true)], args := [d1, d2, d3] }
  | _ => none }
def moveAloneRow : OpenClaim := { program := "ytgemjjpmoejgdaagreat", sum := "f7dc56defc261b9a5475d6b9aaf176d10f68f7b24b02d31fd66530a4d6af8b78", func := "knell/knelllaw18.MoveAlone", spec := "moveAlone", inPlace := ["sync/atomic.StoreUint64", "sync/atomic.AddInt64", "sync/atomic.CompareAndSwapUint64", "sync/atomic.LoadUint64", "sync/atomic.AddUint64"], unfollowed := true, recurses := true, apart := false }
def MoveAloneSaid : Prop := moveAloneRow.holds Tryz.pinned (OpenSpec.ofChange moveAloneSpec)

/-- ITS FALSE NEIGHBOUR: 'it returns false'. Refute it at one input. -/
def moveAloneWrong : ChangeSpec := { name := "moveAlone", fn := fun _ => fun
  | [d1, d2, d3] => { results := [.lit (.bool false)], args := [d1, d2, d3] }
  | _ => none }
def MoveAloneWrongFalsely : Prop := moveAloneRow.holds Tryz.pinned (OpenSpec.ofChange moveAloneWrong)

/- THE SECOND FORM. 'bulk': how many values and letters a reading holds, each counted each time it is reached (what is shared counts as often as it is met; a slice's spare places count too). A statement '..UptoSaid' is the law's where the arguments, and the package variables that the reading takes, are together of bulk at most 1048576: NARROWER than '..Said'. Prove '..Said' where nothing that the law and all that it calls make is longer than what came in: it says more and counts as full. Else prove '..UptoSaid'. A law counts once. -/
mutual
def uptoBulk {H : Type} : DataW H → Nat
  | .lit (.string bytes) => bytes.length + 1
  | .lit _ => 1
  | .nil => 1
  | .ptr d => uptoBulk d + 1
  | .slice elems spare => uptoBulkAll elems + uptoBulkAll spare + 1
  | .agg parts => uptoBulkAll parts + 1
  | .iface _ d => uptoBulk d + 1
  | .map entries => uptoBulkEntries entries + 1
  | .held _ => 1
def uptoBulkAll {H : Type} : List (DataW H) → Nat
  | [] => 0
  | d :: r => uptoBulk d + uptoBulkAll r
def uptoBulkEntries {H : Type} : List (Lit × DataW H) → Nat
  | [] => 0
  | x :: r => uptoBulkEntry x + uptoBulkEntries r
def uptoBulkEntry {H : Type} : Lit × DataW H → Nat
  | (.string bytes, d) => bytes.length + uptoBulk d + 1
  | (_, d) => uptoBulk d + 1
 end
def uptoSmall : (H : Type) → List (DataW H) → Bool := fun _ ds => decide (uptoBulkAll ds ≤ 1048576)
def OpenSpec.upto (s : _root_.Go.ChangeSpec) : _root_.Go.OpenSpec := { _root_.Go.OpenSpec.ofChange s with cond := some uptoSmall }

/-- 'knelllaw16.StartAlone', WHERE WHAT IT READS IS OF BULK AT MOST 1048576: true; the input reads as it did. -/
def startAloneUptoRow : OpenClaim := { program := "ytgemjjpmoejgdaagreat", sum := "f7dc56defc261b9a5475d6b9aaf176d10f68f7b24b02d31fd66530a4d6af8b78", func := "knell/knelllaw16.StartAlone", spec := "startAlone", inPlace := ["sync/atomic.StoreUint64", "sync/atomic.AddInt64", "sync/atomic.CompareAndSwapUint64", "sync/atomic.LoadUint64", "sync/atomic.AddUint64"], unfollowed := true, recurses := true, apart := false, narrowed := true }
def StartAloneUptoSaid : Prop := startAloneUptoRow.holds Tryz.pinned (OpenSpec.upto startAloneSpec)

/-- 'knelllaw15.CoreApart', WHERE WHAT IT READS IS OF BULK AT MOST 1048576: true; the input reads as it did. -/
def coreApartUptoRow : OpenClaim := { program := "ytgemjjpmoejgdaagreat", sum := "f7dc56defc261b9a5475d6b9aaf176d10f68f7b24b02d31fd66530a4d6af8b78", func := "knell/knelllaw15.CoreApart", spec := "coreApart", inPlace := ["sync/atomic.StoreUint64", "sync/atomic.AddInt64", "sync/atomic.LoadUint64", "sync/atomic.AddUint64", "sync/atomic.CompareAndSwapUint64", "sync/atomic.LoadInt64"], unfollowed := true, recurses := true, apart := false, narrowed := true }
def CoreApartUptoSaid : Prop := coreApartUptoRow.holds Tryz.pinned (OpenSpec.upto coreApartSpec)

/-- 'knelllaw18.MoveLeaves', WHERE WHAT IT READS IS OF BULK AT MOST 1048576: true; the input reads as it did. -/
def moveLeavesUptoRow : OpenClaim := { program := "ytgemjjpmoejgdaagreat", sum := "f7dc56defc261b9a5475d6b9aaf176d10f68f7b24b02d31fd66530a4d6af8b78", func := "knell/knelllaw18.MoveLeaves", spec := "moveLeaves", inPlace := ["sync/atomic.StoreUint64", "sync/atomic.AddInt64", "sync/atomic.CompareAndSwapUint64", "sync/atomic.LoadUint64"], unfollowed := true, recurses := true, apart := false, narrowed := true }
def MoveLeavesUptoSaid : Prop := moveLeavesUptoRow.holds Tryz.pinned (OpenSpec.upto moveLeavesSpec)

/-- 'knelllaw18.MoveBack', WHERE WHAT IT READS IS OF BULK AT MOST 1048576: true; the input reads as it did. -/
def moveBackUptoRow : OpenClaim := { program := "ytgemjjpmoejgdaagreat", sum := "f7dc56defc261b9a5475d6b9aaf176d10f68f7b24b02d31fd66530a4d6af8b78", func := "knell/knelllaw18.MoveBack", spec := "moveBack", inPlace := ["sync/atomic.StoreUint64", "sync/atomic.AddInt64", "sync/atomic.CompareAndSwapUint64", "sync/atomic.LoadUint64"], unfollowed := true, recurses := true, apart := false, narrowed := true }
def MoveBackUptoSaid : Prop := moveBackUptoRow.holds Tryz.pinned (OpenSpec.upto moveBackSpec)

/-- 'knelllaw17.ChangeStale', WHERE WHAT IT READS IS OF BULK AT MOST 1048576: true; the input reads as it did. -/
def changeStaleUptoRow : OpenClaim := { program := "ytgemjjpmoejgdaagreat", sum := "f7dc56defc261b9a5475d6b9aaf176d10f68f7b24b02d31fd66530a4d6af8b78", func := "knell/knelllaw17.ChangeStale", spec := "changeStale", inPlace := ["sync/atomic.StoreUint64", "sync/atomic.AddInt64", "sync/atomic.CompareAndSwapUint64", "sync/atomic.LoadUint64"], unfollowed := true, recurses := true, apart := false, narrowed := true }
def ChangeStaleUptoSaid : Prop := changeStaleUptoRow.holds Tryz.pinned (OpenSpec.upto changeStaleSpec)

/-- 'knelllaw17.ChangeAlone', WHERE WHAT IT READS IS OF BULK AT MOST 1048576: true; the input reads as it did. -/
def changeAloneUptoRow : OpenClaim := { program := "ytgemjjpmoejgdaagreat", sum := "f7dc56defc261b9a5475d6b9aaf176d10f68f7b24b02d31fd66530a4d6af8b78", func := "knell/knelllaw17.ChangeAlone", spec := "changeAlone", inPlace := ["sync/atomic.StoreUint64", "sync/atomic.AddInt64", "sync/atomic.CompareAndSwapUint64", "sync/atomic.LoadUint64", "sync/atomic.AddUint64"], unfollowed := true, recurses := true, apart := false, narrowed := true }
def ChangeAloneUptoSaid : Prop := changeAloneUptoRow.holds Tryz.pinned (OpenSpec.upto changeAloneSpec)

/-- 'knelllaw17.ChangeOne', WHERE WHAT IT READS IS OF BULK AT MOST 1048576: true; the input reads as it did. -/
def changeOneUptoRow : OpenClaim := { program := "ytgemjjpmoejgdaagreat", sum := "f7dc56defc261b9a5475d6b9aaf176d10f68f7b24b02d31fd66530a4d6af8b78", func := "knell/knelllaw17.ChangeOne", spec := "changeOne", inPlace := ["sync/atomic.StoreUint64", "sync/atomic.AddInt64", "sync/atomic.CompareAndSwapUint64", "sync/atomic.LoadUint64", "sync/atomic.AddUint64", "sync/atomic.LoadInt64"], unfollowed := true, recurses := true, apart := false, narrowed := true }
def ChangeOneUptoSaid : Prop := changeOneUptoRow.holds Tryz.pinned (OpenSpec.upto changeOneSpec)

/-- 'knelllaw18.MoveAlone', WHERE WHAT IT READS IS OF BULK AT MOST 1048576: true; the input reads as it did. -/
def moveAloneUptoRow : OpenClaim := { program := "ytgemjjpmoejgdaagreat", sum := "f7dc56defc261b9a5475d6b9aaf176d10f68f7b24b02d31fd66530a4d6af8b78", func := "knell/knelllaw18.MoveAlone", spec := "moveAlone", inPlace := ["sync/atomic.StoreUint64", "sync/atomic.AddInt64", "sync/atomic.CompareAndSwapUint64", "sync/atomic.LoadUint64", "sync/atomic.AddUint64"], unfollowed := true, recurses := true, apart := false, narrowed := true }
def MoveAloneUptoSaid : Prop := moveAloneUptoRow.holds Tryz.pinned (OpenSpec.upto moveAloneSpec)

end Rows
end Go.Proofs.YtgemjjpmoejgdaaGreat
