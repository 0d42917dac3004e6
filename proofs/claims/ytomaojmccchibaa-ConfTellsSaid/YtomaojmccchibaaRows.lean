/-
  No cell of these rows narrows 'for every input' (looked for: loops, veiled, ifaces, maps, wideKeys, modest, calm, conditions, laid).
  DERIVED. THE GIVEN ROWS OF THIS SEAT. 14 by the template 'for every input the law returns true; each argument reads behind the call as it read before'; 0 by the template 'total and deterministic' (their statements: YtomaojmccchibaaTotals.lean).
  GIVEN WITH THE SEED: the statements are not yours to turn. If you find one false, say at which input.
  Laid BY PROGRAM, IN A SANDBOX (cutbox-rows.mjs): the forced cells as the released guide's own fill.sh prints them over the translation 5ee024f15075e1b9… (all of the seat's roots in one cut). By AI agents, Wed Nov 11 2026. No macro, syntax, notation, axiom, sorry.
-/
import Derived.Test.YtomaojmccchibaaChecked
import GoSem.Claim
import GoSem.ClaimJoined
import GoSem.ClaimMapViews
import Derived.JoinedTies
import Derived.KernelRfl
namespace Go.Proofs.Ytomaojmccchibaa
/- THE CELL 'sum', in the pinned program and in every row, IS THE sha256 OF THE DUMP (.gsa) THAT YtomaojmccchibaaProg.lean LOADS. Nothing in Lean hashes anything: it is a label: what it is worth is what the hold of that sum in a sandbox is worth. -/
noncomputable def Try.pinned : Pinned := { name := "ytomaojmccchibaa", sum := "5ee024f15075e1b90043bc5a0dbe3f828d7d472cfb658d94fa3e0b5a0bc1ea93", checked := Try.checked }
namespace Rows
def none {H : Type} : Left H := { results := [], args := [] }

/-- 'paternosterlaw05.ConfCheck': WHATEVER THE INPUT: true; the input reads as it did. -/
def confCheckSpec : ChangeSpec := { name := "confCheck", fn := fun _ => fun
  | [d] => { results := [.lit (.bool true)], args := [d] }
  | _ => none }
def confCheckRow : OpenClaim := { program := "ytomaojmccchibaa", sum := "5ee024f15075e1b90043bc5a0dbe3f828d7d472cfb658d94fa3e0b5a0bc1ea93", func := "paternoster/paternosterlaw05.ConfCheck", spec := "confCheck", unfollowed := true, recurses := true, apart := false }
def ConfCheckSaid : Prop := confCheckRow.holds Try.pinned (OpenSpec.ofChange confCheckSpec)

/-- ITS FALSE NEIGHBOUR: 'it returns false'. Refute it at one input. -/
def confCheckWrong : ChangeSpec := { name := "confCheck", fn := fun _ => fun
  | [d] => { results := [.lit (.bool false)], args := [d] }
  | _ => none }
def ConfCheckWrongFalsely : Prop := confCheckRow.holds Try.pinned (OpenSpec.ofChange confCheckWrong)

/-- 'paternosterlaw05.ConfBanks': WHATEVER THE INPUT: true; the input reads as it did. -/
def confBanksSpec : ChangeSpec := { name := "confBanks", fn := fun _ => fun
  | [d] => { results := [.lit (.bool true)], args := [d] }
  | _ => none }
def confBanksRow : OpenClaim := { program := "ytomaojmccchibaa", sum := "5ee024f15075e1b90043bc5a0dbe3f828d7d472cfb658d94fa3e0b5a0bc1ea93", func := "paternoster/paternosterlaw05.ConfBanks", spec := "confBanks", unfollowed := true, recurses := true, apart := false }
def ConfBanksSaid : Prop := confBanksRow.holds Try.pinned (OpenSpec.ofChange confBanksSpec)

/-- ITS FALSE NEIGHBOUR: 'it returns false'. Refute it at one input. -/
def confBanksWrong : ChangeSpec := { name := "confBanks", fn := fun _ => fun
  | [d] => { results := [.lit (.bool false)], args := [d] }
  | _ => none }
def ConfBanksWrongFalsely : Prop := confBanksRow.holds Try.pinned (OpenSpec.ofChange confBanksWrong)

/-- 'paternosterlaw05.ConfOrders': WHATEVER THE INPUT: true; the input reads as it did. -/
def confOrdersSpec : ChangeSpec := { name := "confOrders", fn := fun _ => fun
  | [d1, d2, d3] => { results := [.lit (.bool true)], args := [d1, d2, d3] }
  | _ => none }
def confOrdersRow : OpenClaim := { program := "ytomaojmccchibaa", sum := "5ee024f15075e1b90043bc5a0dbe3f828d7d472cfb658d94fa3e0b5a0bc1ea93", func := "paternoster/paternosterlaw05.ConfOrders", spec := "confOrders", unfollowed := true, recurses := true, apart := false }
def ConfOrdersSaid : Prop := confOrdersRow.holds Try.pinned (OpenSpec.ofChange confOrdersSpec)

/-- ITS FALSE NEIGHBOUR: 'it returns false'. Refute it at one input. -/
def confOrdersWrong : ChangeSpec := { name := "confOrders", fn := fun _ => fun
  | [d1, d2, d3] => { results := [.lit (.bool false)], args := [d1, d2, d3] }
  | _ => none }
def ConfOrdersWrongFalsely : Prop := confOrdersRow.holds Try.pinned (OpenSpec.ofChange confOrdersWrong)

/-- 'paternosterlaw05.ConfBlocked': WHATEVER THE INPUT: true; the input reads as it did. -/
def confBlockedSpec : ChangeSpec := { name := "confBlocked", fn := fun _ => fun
  | [d1, d2, d3] => { results := [.lit (.bool true)], args := [d1, d2, d3] }
  | _ => none }
def confBlockedRow : OpenClaim := { program := "ytomaojmccchibaa", sum := "5ee024f15075e1b90043bc5a0dbe3f828d7d472cfb658d94fa3e0b5a0bc1ea93", func := "paternoster/paternosterlaw05.ConfBlocked", spec := "confBlocked", unfollowed := true, recurses := true, apart := false }
def ConfBlockedSaid : Prop := confBlockedRow.holds Try.pinned (OpenSpec.ofChange confBlockedSpec)

/-- ITS FALSE NEIGHBOUR: 'it returns false'. Refute it at one input. -/
def confBlockedWrong : ChangeSpec := { name := "confBlocked", fn := fun _ => fun
  | [d1, d2, d3] => { results := [.lit (.bool false)], args := [d1, d2, d3] }
  | _ => none }
def ConfBlockedWrongFalsely : Prop := confBlockedRow.holds Try.pinned (OpenSpec.ofChange confBlockedWrong)

/-- 'paternosterlaw04.RatesDraws': WHATEVER THE INPUT: true; the input reads as it did. -/
def ratesDrawsSpec : ChangeSpec := { name := "ratesDraws", fn := fun _ => fun
  | [d1, d2, d3, d4] => { results := [.lit (.bool true)], args := [d1, d2, d3, d4] }
  | _ => none }
def ratesDrawsRow : OpenClaim := { program := "ytomaojmccchibaa", sum := "5ee024f15075e1b90043bc5a0dbe3f828d7d472cfb658d94fa3e0b5a0bc1ea93", func := "paternoster/paternosterlaw04.RatesDraws", spec := "ratesDraws", inPlace := ["sync/atomic.LoadInt64", "sync/atomic.AddInt64", "sync/atomic.LoadUint32", "(*internal/sync.Mutex).Lock", "internal/race.Disable", "sync/atomic.CompareAndSwapInt32", "internal/race.Enable", "internal/race.Acquire", "(*internal/sync.Mutex).lockSlow", "internal/sync.runtime_canSpin", "internal/sync.runtime_doSpin", "internal/sync.throw", "internal/sync.runtime_nanotime", "internal/sync.runtime_SemacquireMutex", "sync/atomic.AddInt32", "(*internal/sync.Mutex).Unlock", "internal/race.ReleaseMerge", "(*internal/sync.Mutex).unlockSlow", "internal/sync.fatal", "internal/sync.runtime_Semrelease", "sync/atomic.StoreUint32"], unfollowed := true, recurses := true, apart := false }
def RatesDrawsSaid : Prop := ratesDrawsRow.holds Try.pinned (OpenSpec.ofChange ratesDrawsSpec)

/-- ITS FALSE NEIGHBOUR: 'it returns false'. Refute it at one input. -/
def ratesDrawsWrong : ChangeSpec := { name := "ratesDraws", fn := fun _ => fun
  | [d1, d2, d3, d4] => { results := [.lit (.bool false)], args := [d1, d2, d3, d4] }
  | _ => none }
def RatesDrawsWrongFalsely : Prop := ratesDrawsRow.holds Try.pinned (OpenSpec.ofChange ratesDrawsWrong)

/-- 'paternosterlaw04.RatesLoads': WHATEVER THE INPUT: true; the input reads as it did. -/
def ratesLoadsSpec : ChangeSpec := { name := "ratesLoads", fn := fun _ => fun
  | [d1, d2, d3, d4] => { results := [.lit (.bool true)], args := [d1, d2, d3, d4] }
  | _ => none }
def ratesLoadsRow : OpenClaim := { program := "ytomaojmccchibaa", sum := "5ee024f15075e1b90043bc5a0dbe3f828d7d472cfb658d94fa3e0b5a0bc1ea93", func := "paternoster/paternosterlaw04.RatesLoads", spec := "ratesLoads", inPlace := ["sync/atomic.LoadInt64", "sync/atomic.AddInt64", "sync/atomic.LoadUint32", "(*internal/sync.Mutex).Lock", "internal/race.Disable", "sync/atomic.CompareAndSwapInt32", "internal/race.Enable", "internal/race.Acquire", "(*internal/sync.Mutex).lockSlow", "internal/sync.runtime_canSpin", "internal/sync.runtime_doSpin", "internal/sync.throw", "internal/sync.runtime_nanotime", "internal/sync.runtime_SemacquireMutex", "sync/atomic.AddInt32", "(*internal/sync.Mutex).Unlock", "internal/race.ReleaseMerge", "(*internal/sync.Mutex).unlockSlow", "internal/sync.fatal", "internal/sync.runtime_Semrelease", "sync/atomic.StoreUint32"], unfollowed := true, recurses := true, apart := false }
def RatesLoadsSaid : Prop := ratesLoadsRow.holds Try.pinned (OpenSpec.ofChange ratesLoadsSpec)

/-- ITS FALSE NEIGHBOUR: 'it returns false'. Refute it at one input. -/
def ratesLoadsWrong : ChangeSpec := { name := "ratesLoads", fn := fun _ => fun
  | [d1, d2, d3, d4] => { results := [.lit (.bool false)], args := [d1, d2, d3, d4] }
  | _ => none }
def RatesLoadsWrongFalsely : Prop := ratesLoadsRow.holds Try.pinned (OpenSpec.ofChange ratesLoadsWrong)

/-- 'paternosterlaw04.RatesGrow': WHATEVER THE INPUT: true; the input reads as it did. -/
def ratesGrowSpec : ChangeSpec := { name := "ratesGrow", fn := fun _ => fun
  | [d1, d2, d3, d4] => { results := [.lit (.bool true)], args := [d1, d2, d3, d4] }
  | _ => none }
def ratesGrowRow : OpenClaim := { program := "ytomaojmccchibaa", sum := "5ee024f15075e1b90043bc5a0dbe3f828d7d472cfb658d94fa3e0b5a0bc1ea93", func := "paternoster/paternosterlaw04.RatesGrow", spec := "ratesGrow", inPlace := ["sync/atomic.LoadInt64", "sync/atomic.AddInt64", "sync/atomic.LoadUint32", "(*internal/sync.Mutex).Lock", "internal/race.Disable", "sync/atomic.CompareAndSwapInt32", "internal/race.Enable", "internal/race.Acquire", "(*internal/sync.Mutex).lockSlow", "internal/sync.runtime_canSpin", "internal/sync.runtime_doSpin", "internal/sync.throw", "internal/sync.runtime_nanotime", "internal/sync.runtime_SemacquireMutex", "sync/atomic.AddInt32", "(*internal/sync.Mutex).Unlock", "internal/race.ReleaseMerge", "(*internal/sync.Mutex).unlockSlow", "internal/sync.fatal", "internal/sync.runtime_Semrelease", "sync/atomic.StoreUint32"], unfollowed := true, recurses := true, apart := false }
def RatesGrowSaid : Prop := ratesGrowRow.holds Try.pinned (OpenSpec.ofChange ratesGrowSpec)

/-- ITS FALSE NEIGHBOUR: 'it returns false'. Refute it at one input. -/
def ratesGrowWrong : ChangeSpec := { name := "ratesGrow", fn := fun _ => fun
  | [d1, d2, d3, d4] => { results := [.lit (.bool false)], args := [d1, d2, d3, d4] }
  | _ => none }
def RatesGrowWrongFalsely : Prop := ratesGrowRow.holds Try.pinned (OpenSpec.ofChange ratesGrowWrong)

/-- 'paternosterlaw04.RatesMirror': WHATEVER THE INPUT: true; the input reads as it did. -/
def ratesMirrorSpec : ChangeSpec := { name := "ratesMirror", fn := fun _ => fun
  | [d1, d2, d3] => { results := [.lit (.bool true)], args := [d1, d2, d3] }
  | _ => none }
def ratesMirrorRow : OpenClaim := { program := "ytomaojmccchibaa", sum := "5ee024f15075e1b90043bc5a0dbe3f828d7d472cfb658d94fa3e0b5a0bc1ea93", func := "paternoster/paternosterlaw04.RatesMirror", spec := "ratesMirror", inPlace := ["sync/atomic.LoadInt64", "sync/atomic.AddInt64", "sync/atomic.LoadUint32", "(*internal/sync.Mutex).Lock", "internal/race.Disable", "sync/atomic.CompareAndSwapInt32", "internal/race.Enable", "internal/race.Acquire", "(*internal/sync.Mutex).lockSlow", "internal/sync.runtime_canSpin", "internal/sync.runtime_doSpin", "internal/sync.throw", "internal/sync.runtime_nanotime", "internal/sync.runtime_SemacquireMutex", "sync/atomic.AddInt32", "(*internal/sync.Mutex).Unlock", "internal/race.ReleaseMerge", "(*internal/sync.Mutex).unlockSlow", "internal/sync.fatal", "internal/sync.runtime_Semrelease", "sync/atomic.StoreUint32"], unfollowed := true, recurses := true, apart := false }
def RatesMirrorSaid : Prop := ratesMirrorRow.holds Try.pinned (OpenSpec.ofChange ratesMirrorSpec)

/-- ITS FALSE NEIGHBOUR: 'it returns false'. Refute it at one input. -/
def ratesMirrorWrong : ChangeSpec := { name := "ratesMirror", fn := fun _ => fun
  | [d1, d2, d3] => { results := [.lit (.bool false)], args := [d1, d2, d3] }
  | _ => none }
def RatesMirrorWrongFalsely : Prop := ratesMirrorRow.holds Try.pinned (OpenSpec.ofChange ratesMirrorWrong)

/-- 'paternosterlaw04.RatesCheck': WHATEVER THE INPUT: true; the input reads as it did. -/
def ratesCheckSpec : ChangeSpec := { name := "ratesCheck", fn := fun _ => fun
  | [d] => { results := [.lit (.bool true)], args := [d] }
  | _ => none }
def ratesCheckRow : OpenClaim := { program := "ytomaojmccchibaa", sum := "5ee024f15075e1b90043bc5a0dbe3f828d7d472cfb658d94fa3e0b5a0bc1ea93", func := "paternoster/paternosterlaw04.RatesCheck", spec := "ratesCheck", inPlace := ["sync/atomic.LoadInt64", "sync/atomic.AddInt64", "sync/atomic.LoadUint32", "(*internal/sync.Mutex).Lock", "internal/race.Disable", "sync/atomic.CompareAndSwapInt32", "internal/race.Enable", "internal/race.Acquire", "(*internal/sync.Mutex).lockSlow", "internal/sync.runtime_canSpin", "internal/sync.runtime_doSpin", "internal/sync.throw", "internal/sync.runtime_nanotime", "internal/sync.runtime_SemacquireMutex", "sync/atomic.AddInt32", "(*internal/sync.Mutex).Unlock", "internal/race.ReleaseMerge", "(*internal/sync.Mutex).unlockSlow", "internal/sync.fatal", "internal/sync.runtime_Semrelease", "sync/atomic.StoreUint32"], unfollowed := true, recurses := true, apart := false }
def RatesCheckSaid : Prop := ratesCheckRow.holds Try.pinned (OpenSpec.ofChange ratesCheckSpec)

/-- ITS FALSE NEIGHBOUR: 'it returns false'. Refute it at one input. -/
def ratesCheckWrong : ChangeSpec := { name := "ratesCheck", fn := fun _ => fun
  | [d] => { results := [.lit (.bool false)], args := [d] }
  | _ => none }
def RatesCheckWrongFalsely : Prop := ratesCheckRow.holds Try.pinned (OpenSpec.ofChange ratesCheckWrong)

/-- 'paternosterlaw04.RatesPeaks': WHATEVER THE INPUT: true; the input reads as it did. -/
def ratesPeaksSpec : ChangeSpec := { name := "ratesPeaks", fn := fun _ => fun
  | [d1, d2, d3] => { results := [.lit (.bool true)], args := [d1, d2, d3] }
  | _ => none }
def ratesPeaksRow : OpenClaim := { program := "ytomaojmccchibaa", sum := "5ee024f15075e1b90043bc5a0dbe3f828d7d472cfb658d94fa3e0b5a0bc1ea93", func := "paternoster/paternosterlaw04.RatesPeaks", spec := "ratesPeaks", inPlace := ["sync/atomic.LoadInt64", "sync/atomic.AddInt64", "sync/atomic.LoadUint32", "(*internal/sync.Mutex).Lock", "internal/race.Disable", "sync/atomic.CompareAndSwapInt32", "internal/race.Enable", "internal/race.Acquire", "(*internal/sync.Mutex).lockSlow", "internal/sync.runtime_canSpin", "internal/sync.runtime_doSpin", "internal/sync.throw", "internal/sync.runtime_nanotime", "internal/sync.runtime_SemacquireMutex", "sync/atomic.AddInt32", "(*internal/sync.Mutex).Unlock", "internal/race.ReleaseMerge", "(*internal/sync.Mutex).unlockSlow", "internal/sync.fatal", "internal/sync.runtime_Semrelease", "sync/atomic.StoreUint32"], unfollowed := true, recurses := true, apart := false }
def RatesPeaksSaid : Prop := ratesPeaksRow.holds Try.pinned (OpenSpec.ofChange ratesPeaksSpec)

/-- ITS FALSE NEIGHBOUR: 'it returns false'. Refute it at one input. -/
def ratesPeaksWrong : ChangeSpec := { name := "ratesPeaks", fn := fun _ => fun
  | [d1, d2, d3] => { results := [.lit (.bool false)], args := [d1, d2, d3] }
  | _ => none }
def RatesPeaksWrongFalsely : Prop := ratesPeaksRow.holds Try.pinned (OpenSpec.ofChange ratesPeaksWrong)

/-- 'paternosterlaw04.RatesBounds': WHATEVER THE INPUT: true; the input reads as it did. -/
def ratesBoundsSpec : ChangeSpec := { name := "ratesBounds", fn := fun _ => fun
  | [d1, d2, d3, d4] => { results := [.lit (.bool true)], args := [d1, d2, d3, d4] }
  | _ => none }
def ratesBoundsRow : OpenClaim := { program := "ytomaojmccchibaa", sum := "5ee024f15075e1b90043bc5a0dbe3f828d7d472cfb658d94fa3e0b5a0bc1ea93", func := "paternoster/paternosterlaw04.RatesBounds", spec := "ratesBounds", inPlace := ["sync/atomic.LoadInt64", "sync/atomic.AddInt64", "sync/atomic.LoadUint32", "(*internal/sync.Mutex).Lock", "internal/race.Disable", "sync/atomic.CompareAndSwapInt32", "internal/race.Enable", "internal/race.Acquire", "(*internal/sync.Mutex).lockSlow", "internal/sync.runtime_canSpin", "internal/sync.runtime_doSpin", "internal/sync.throw", "internal/sync.runtime_nanotime", "internal/sync.runtime_SemacquireMutex", "sync/atomic.AddInt32", "(*internal/sync.Mutex).Unlock", "internal/race.ReleaseMerge", "(*internal/sync.Mutex).unlockSlow", "internal/sync.fatal", "internal/sync.runtime_Semrelease", "sync/atomic.StoreUint32"], unfollowed := true, recurses := true, apart := false }
def RatesBoundsSaid : Prop := ratesBoundsRow.holds Try.pinned (OpenSpec.ofChange ratesBoundsSpec)

/-- ITS FALSE NEIGHBOUR: 'it returns false'. Refute it at one input. -/
def ratesBoundsWrong : ChangeSpec := { name := "ratesBounds", fn := fun _ => fun
  | [d1, d2, d3, d4] => { results := [.lit (.bool false)], args := [d1, d2, d3, d4] }
  | _ => none }
def RatesBoundsWrongFalsely : Prop := ratesBoundsRow.holds Try.pinned (OpenSpec.ofChange ratesBoundsWrong)

/-- 'paternosterlaw04.RatesTwo': WHATEVER THE INPUT: true; the input reads as it did. -/
def ratesTwoSpec : ChangeSpec := { name := "ratesTwo", fn := fun _ => fun
  | [d1, d2, d3] => { results := [.lit (.bool true)], args := [d1, d2, d3] }
  | _ => none }
def ratesTwoRow : OpenClaim := { program := "ytomaojmccchibaa", sum := "5ee024f15075e1b90043bc5a0dbe3f828d7d472cfb658d94fa3e0b5a0bc1ea93", func := "paternoster/paternosterlaw04.RatesTwo", spec := "ratesTwo", inPlace := ["sync/atomic.LoadInt64", "sync/atomic.AddInt64", "sync/atomic.LoadUint32", "(*internal/sync.Mutex).Lock", "internal/race.Disable", "sync/atomic.CompareAndSwapInt32", "internal/race.Enable", "internal/race.Acquire", "(*internal/sync.Mutex).lockSlow", "internal/sync.runtime_canSpin", "internal/sync.runtime_doSpin", "internal/sync.throw", "internal/sync.runtime_nanotime", "internal/sync.runtime_SemacquireMutex", "sync/atomic.AddInt32", "(*internal/sync.Mutex).Unlock", "internal/race.ReleaseMerge", "(*internal/sync.Mutex).unlockSlow", "internal/sync.fatal", "internal/sync.runtime_Semrelease", "sync/atomic.StoreUint32"], unfollowed := true, recurses := true, apart := false }
def RatesTwoSaid : Prop := ratesTwoRow.holds Try.pinned (OpenSpec.ofChange ratesTwoSpec)

/-- ITS FALSE NEIGHBOUR: 'it returns false'. Refute it at one input. -/
def ratesTwoWrong : ChangeSpec := { name := "ratesTwo", fn := fun _ => fun
  | [d1, d2, d3] => { results := [.lit (.bool false)], args := [d1, d2, d3] }
  | _ => none }
def RatesTwoWrongFalsely : Prop := ratesTwoRow.holds Try.pinned (OpenSpec.ofChange ratesTwoWrong)

/-- 'paternosterlaw05.ConfGrows': WHATEVER THE INPUT: true; the input reads as it did. -/
def confGrowsSpec : ChangeSpec := { name := "confGrows", fn := fun _ => fun
  | [d1, d2] => { results := [.lit (.bool true)], args := [d1, d2] }
  | _ => none }
def confGrowsRow : OpenClaim := { program := "ytomaojmccchibaa", sum := "5ee024f15075e1b90043bc5a0dbe3f828d7d472cfb658d94fa3e0b5a0bc1ea93", func := "paternoster/paternosterlaw05.ConfGrows", spec := "confGrows", inPlace := ["sync/atomic.AddInt64", "sync/atomic.LoadUint32", "(*internal/sync.Mutex).Lock", "internal/race.Disable", "sync/atomic.CompareAndSwapInt32", "internal/race.Enable", "internal/race.Acquire", "(*internal/sync.Mutex).lockSlow", "internal/sync.runtime_canSpin", "internal/sync.runtime_doSpin", "internal/sync.throw", "internal/sync.runtime_nanotime", "internal/sync.runtime_SemacquireMutex", "sync/atomic.AddInt32", "(*internal/sync.Mutex).Unlock", "internal/race.ReleaseMerge", "(*internal/sync.Mutex).unlockSlow", "internal/sync.fatal", "internal/sync.runtime_Semrelease", "sync/atomic.StoreUint32"], unfollowed := true, recurses := true, apart := false }
def ConfGrowsSaid : Prop := confGrowsRow.holds Try.pinned (OpenSpec.ofChange confGrowsSpec)

/-- ITS FALSE NEIGHBOUR: 'it returns false'. Refute it at one input. -/
def confGrowsWrong : ChangeSpec := { name := "confGrows", fn := fun _ => fun
  | [d1, d2] => { results := [.lit (.bool false)], args := [d1, d2] }
  | _ => none }
def ConfGrowsWrongFalsely : Prop := confGrowsRow.holds Try.pinned (OpenSpec.ofChange confGrowsWrong)

/-- 'paternosterlaw05.ConfTells': WHATEVER THE INPUT: true; the input reads as it did. -/
def confTellsSpec : ChangeSpec := { name := "confTells", fn := fun _ => fun
  | [d1, d2] => { results := [.lit (.bool true)], args := [d1, d2] }
  | _ => none }
def confTellsRow : OpenClaim := { program := "ytomaojmccchibaa", sum := "5ee024f15075e1b90043bc5a0dbe3f828d7d472cfb658d94fa3e0b5a0bc1ea93", func := "paternoster/paternosterlaw05.ConfTells", spec := "confTells", inPlace := ["sync/atomic.AddInt64", "sync/atomic.LoadUint32", "(*internal/sync.Mutex).Lock", "internal/race.Disable", "sync/atomic.CompareAndSwapInt32", "internal/race.Enable", "internal/race.Acquire", "(*internal/sync.Mutex).lockSlow", "internal/sync.runtime_canSpin", "internal/sync.runtime_doSpin", "internal/sync.throw", "internal/sync.runtime_nanotime", "internal/sync.runtime_SemacquireMutex", "sync/atomic.AddInt32", "(*internal/sync.Mutex).Unlock", "internal/race.ReleaseMerge", "(*internal/sync.Mutex).unlockSlow", "internal/sync.fatal", "internal/sync.runtime_Semrelease", "sync/atomic.StoreUint32"], unfollowed := true, recurses := true, apart := false }
def ConfTellsSaid : Prop := confTellsRow.holds Try.pinned (OpenSpec.ofChange confTellsSpec)

/-- ITS FALSE NEIGHBOUR: 'it returns false'. Refute it at one input. -/
def confTellsWrong : ChangeSpec := { name := "confTells", fn := fun _ => fun
  | [d1, d2] => { results := [.lit (.bool false)], args := [d1, d2] }
  | _ => none }
def ConfTellsWrongFalsely : Prop := confTellsRow.holds Try.pinned (OpenSpec.ofChange confTellsWrong)

/- THE SECOND FORM. 'bulk': how many values and letters a reading holds, each counted each time it is reached (what is shared counts as often as it is met; a slice's spare places count too). A statement '..UptoSaid' is the law's where the arguments, and the package variables that the reading takes, are together of bulk at most 1048576: NARROWER than '..Said'. Prove '..Said' where nothing that the law and all that it calls make is longer than what came in: it says more and counts as full. Else prove '..UptoSaid'. A law counts once. -/
mutual
def uptoBulk {H : Type} : DataW H → Nat
  | .lit (.string bytes) => bytes.length + 1
  | .lit _ => 1
  | .nil => 1
  | .ptr d => uptoBulk d + 1
  | .slice elems spare => uptoBulkAll elems + uptoBulkAll spare + 1
  | .agg parts => uptoBulkAll parts + 1
  | .iface _ d => uptoBulk d + 1
  | .map entries => uptoBulkEntries entries + 1
  | .held _ => 1
def uptoBulkAll {H : Type} : List (DataW H) → Nat
  | [] => 0
  | d :: r => uptoBulk d + uptoBulkAll r
def uptoBulkEntries {H : Type} : List (Lit × DataW H) → Nat
  | [] => 0
  | x :: r => uptoBulkEntry x + uptoBulkEntries r
def uptoBulkEntry {H : Type} : Lit × DataW H → Nat
  | (.string bytes, d) => bytes.length + uptoBulk d + 1
  | (_, d) => uptoBulk d + 1
 end
def uptoSmall : (H : Type) → List (DataW H) → Bool := fun _ ds => decide (uptoBulkAll ds ≤ 1048576)
def OpenSpec.upto (s : _root_.Go.ChangeSpec) : _root_.Go.OpenSpec := { _root_.Go.OpenSpec.ofChange s with cond := some uptoSmall }

/-- 'paternosterlaw05.ConfCheck', WHERE WHAT IT READS IS OF BULK AT MOST 1048576: true; the input reads as it did. -/
def confCheckUptoRow : OpenClaim := { program := "ytomaojmccchibaa", sum := "5ee024f15075e1b90043bc5a0dbe3f828d7d472cfb658d94fa3e0b5a0bc1ea93", func := "paternoster/paternosterlaw05.ConfCheck", spec := "confCheck", unfollowed := true, recurses := true, apart := false, narrowed := true }
def ConfCheckUptoSaid : Prop := confCheckUptoRow.holds Try.pinned (OpenSpec.upto confCheckSpec)

/-- 'paternosterlaw05.ConfBanks', WHERE WHAT IT READS IS OF BULK AT MOST 1048576: true; the input reads as it did. -/
def confBanksUptoRow : OpenClaim := { program := "ytomaojmccchibaa", sum := "5ee024f15075e1b90043bc5a0dbe3f828d7d472cfb658d94fa3e0b5a0bc1ea93", func := "paternoster/paternosterlaw05.ConfBanks", spec := "confBanks", unfollowed := true, recurses := true, apart := false, narrowed := true }
def ConfBanksUptoSaid : Prop := confBanksUptoRow.holds Try.pinned (OpenSpec.upto confBanksSpec)

/-- 'paternosterlaw05.ConfOrders', WHERE WHAT IT READS IS OF BULK AT MOST 1048576: true; the input reads as it did. -/
def confOrdersUptoRow : OpenClaim := { program := "ytomaojmccchibaa", sum := "5ee024f15075e1b90043bc5a0dbe3f828d7d472cfb658d94fa3e0b5a0bc1ea93", func := "paternoster/paternosterlaw05.ConfOrders", spec := "confOrders", unfollowed := true, recurses := true, apart := false, narrowed := true }
def ConfOrdersUptoSaid : Prop := confOrdersUptoRow.holds Try.pinned (OpenSpec.upto confOrdersSpec)

/-- 'paternosterlaw05.ConfBlocked', WHERE WHAT IT READS IS OF BULK AT MOST 1048576: true; the input reads as it did. -/
def confBlockedUptoRow : OpenClaim := { program := "ytomaojmccchibaa", sum := "5ee024f15075e1b90043bc5a0dbe3f828d7d472cfb658d94fa3e0b5a0bc1ea93", func := "paternoster/paternosterlaw05.ConfBlocked", spec := "confBlocked", unfollowed := true, recurses := true, apart := false, narrowed := true }
def ConfBlockedUptoSaid : Prop := confBlockedUptoRow.holds Try.pinned (OpenSpec.upto confBlockedSpec)

/-- 'paternosterlaw04.RatesDraws', WHERE WHAT IT READS IS OF BULK AT MOST 1048576: true; the input reads as it did. -/
def ratesDrawsUptoRow : OpenClaim := { program := "ytomaojmccchibaa", sum := "5ee024f15075e1b90043bc5a0dbe3f828d7d472cfb658d94fa3e0b5a0bc1ea93", func := "paternoster/paternosterlaw04.RatesDraws", spec := "ratesDraws", inPlace := ["sync/atomic.LoadInt64", "sync/atomic.AddInt64", "sync/atomic.LoadUint32", "(*internal/sync.Mutex).Lock", "internal/race.Disable", "sync/atomic.CompareAndSwapInt32", "internal/race.Enable", "internal/race.Acquire", "(*internal/sync.Mutex).lockSlow", "internal/sync.runtime_canSpin", "internal/sync.runtime_doSpin", "internal/sync.throw", "internal/sync.runtime_nanotime", "internal/sync.runtime_SemacquireMutex", "sync/atomic.AddInt32", "(*internal/sync.Mutex).Unlock", "internal/race.ReleaseMerge", "(*internal/sync.Mutex).unlockSlow", "internal/sync.fatal", "internal/sync.runtime_Semrelease", "sync/atomic.StoreUint32"], unfollowed := true, recurses := true, apart := false, narrowed := true }
def RatesDrawsUptoSaid : Prop := ratesDrawsUptoRow.holds Try.pinned (OpenSpec.upto ratesDrawsSpec)

/-- 'paternosterlaw04.RatesLoads', WHERE WHAT IT READS IS OF BULK AT MOST 1048576: true; the input reads as it did. -/
def ratesLoadsUptoRow : OpenClaim := { program := "ytomaojmccchibaa", sum := "5ee024f15075e1b90043bc5a0dbe3f828d7d472cfb658d94fa3e0b5a0bc1ea93", func := "paternoster/paternosterlaw04.RatesLoads", spec := "ratesLoads", inPlace := ["sync/atomic.LoadInt64", "sync/atomic.AddInt64", "sync/atomic.LoadUint32", "(*internal/sync.Mutex).Lock", "internal/race.Disable", "sync/atomic.CompareAndSwapInt32", "internal/race.Enable", "internal/race.Acquire", "(*internal/sync.Mutex).lockSlow", "internal/sync.runtime_canSpin", "internal/sync.runtime_doSpin", "internal/sync.throw", "internal/sync.runtime_nanotime", "internal/sync.runtime_SemacquireMutex", "sync/atomic.AddInt32", "(*internal/sync.Mutex).Unlock", "internal/race.ReleaseMerge", "(*internal/sync.Mutex).unlockSlow", "internal/sync.fatal", "internal/sync.runtime_Semrelease", "sync/atomic.StoreUint32"], unfollowed := true, recurses := true, apart := false, narrowed := true }
def RatesLoadsUptoSaid : Prop := ratesLoadsUptoRow.holds Try.pinned (OpenSpec.upto ratesLoadsSpec)

/-- 'paternosterlaw04.RatesGrow', WHERE WHAT IT READS IS OF BULK AT MOST 1048576: true; the input reads as it did. -/
def ratesGrowUptoRow : OpenClaim := { program := "ytomaojmccchibaa", sum := "5ee024f15075e1b90043bc5a0dbe3f828d7d472cfb658d94fa3e0b5a0bc1ea93", func := "paternoster/paternosterlaw04.RatesGrow", spec := "ratesGrow", inPlace := ["sync/atomic.LoadInt64", "sync/atomic.AddInt64", "sync/atomic.LoadUint32", "(*internal/sync.Mutex).Lock", "internal/race.Disable", "sync/atomic.CompareAndSwapInt32", "internal/race.Enable", "internal/race.Acquire", "(*internal/sync.Mutex).lockSlow", "internal/sync.runtime_canSpin", "internal/sync.runtime_doSpin", "internal/sync.throw", "internal/sync.runtime_nanotime", "internal/sync.runtime_SemacquireMutex", "sync/atomic.AddInt32", "(*internal/sync.Mutex).Unlock", "internal/race.ReleaseMerge", "(*internal/sync.Mutex).unlockSlow", "internal/sync.fatal", "internal/sync.runtime_Semrelease", "sync/atomic.StoreUint32"], unfollowed := true, recurses := true, apart := false, narrowed := true }
def RatesGrowUptoSaid : Prop := ratesGrowUptoRow.holds Try.pinned (OpenSpec.upto ratesGrowSpec)

/-- 'paternosterlaw04.RatesMirror', WHERE WHAT IT READS IS OF BULK AT MOST 1048576: true; the input reads as it did. -/
def ratesMirrorUptoRow : OpenClaim := { program := "ytomaojmccchibaa", sum := "5ee024f15075e1b90043bc5a0dbe3f828d7d472cfb658d94fa3e0b5a0bc1ea93", func := "paternoster/paternosterlaw04.RatesMirror", spec := "ratesMirror", inPlace := ["sync/atomic.LoadInt64", "sync/atomic.AddInt64", "sync/atomic.LoadUint32", "(*internal/sync.Mutex).Lock", "internal/race.Disable", "sync/atomic.CompareAndSwapInt32", "internal/race.Enable", "internal/race.Acquire", "(*internal/sync.Mutex).lockSlow", "internal/sync.runtime_canSpin", "internal/sync.runtime_doSpin", "internal/sync.throw", "internal/sync.runtime_nanotime", "internal/sync.runtime_SemacquireMutex", "sync/atomic.AddInt32", "(*internal/sync.Mutex).Unlock", "internal/race.ReleaseMerge", "(*internal/sync.Mutex).unlockSlow", "internal/sync.fatal", "internal/sync.runtime_Semrelease", "sync/atomic.StoreUint32"], unfollowed := true, recurses := true, apart := false, narrowed := true }
def RatesMirrorUptoSaid : Prop := ratesMirrorUptoRow.holds Try.pinned (OpenSpec.upto ratesMirrorSpec)

/-- 'paternosterlaw04.RatesCheck', WHERE WHAT IT READS IS OF BULK AT MOST 1048576: true; the input reads as it did. -/
def ratesCheckUptoRow : OpenClaim := { program := "ytomaojmccchibaa", sum := "5ee024f15075e1b90043bc5a0dbe3f828d7d472cfb658d94fa3e0b5a0bc1ea93", func := "paternoster/paternosterlaw04.RatesCheck", spec := "ratesCheck", inPlace := ["sync/atomic.LoadInt64", "sync/atomic.AddInt64", "sync/atomic.LoadUint32", "(*internal/sync.Mutex).Lock", "internal/race.Disable", "sync/atomic.CompareAndSwapInt32", "internal/race.Enable", "internal/race.Acquire", "(*internal/sync.Mutex).lockSlow", "internal/sync.runtime_canSpin", "internal/sync.runtime_doSpin", "internal/sync.throw", "internal/sync.runtime_nanotime", "internal/sync.runtime_SemacquireMutex", "sync/atomic.AddInt32", "(*internal/sync.Mutex).Unlock", "internal/race.ReleaseMerge", "(*internal/sync.Mutex).unlockSlow", "internal/sync.fatal", "internal/sync.runtime_Semrelease", "sync/atomic.StoreUint32"], unfollowed := true, recurses := true, apart := false, narrowed := true }
def RatesCheckUptoSaid : Prop := ratesCheckUptoRow.holds Try.pinned (OpenSpec.upto ratesCheckSpec)

/-- 'paternosterlaw04.RatesPeaks', WHERE WHAT IT READS IS OF BULK AT MOST 1048576: true; the input reads as it did. -/
def ratesPeaksUptoRow : OpenClaim := { program := "ytomaojmccchibaa", sum := "5ee024f15075e1b90043bc5a0dbe3f828d7d472cfb658d94fa3e0b5a0bc1ea93", func := "paternoster/paternosterlaw04.RatesPeaks", spec := "ratesPeaks", inPlace := ["sync/atomic.LoadInt64", "sync/atomic.AddInt64", "sync/atomic.LoadUint32", "(*internal/sync.Mutex).Lock", "internal/race.Disable", "sync/atomic.CompareAndSwapInt32", "internal/race.Enable", "internal/race.Acquire", "(*internal/sync.Mutex).lockSlow", "internal/sync.runtime_canSpin", "internal/sync.runtime_doSpin", "internal/sync.throw", "internal/sync.runtime_nanotime", "internal/sync.runtime_SemacquireMutex", "sync/atomic.AddInt32", "(*internal/sync.Mutex).Unlock", "internal/race.ReleaseMerge", "(*internal/sync.Mutex).unlockSlow", "internal/sync.fatal", "internal/sync.runtime_Semrelease", "sync/atomic.StoreUint32"], unfollowed := true, recurses := true, apart := false, narrowed := true }
def RatesPeaksUptoSaid : Prop := ratesPeaksUptoRow.holds Try.pinned (OpenSpec.upto ratesPeaksSpec)

/-- 'paternosterlaw04.RatesBounds', WHERE WHAT IT READS IS OF BULK AT MOST 1048576: true; the input reads as it did. -/
def ratesBoundsUptoRow : OpenClaim := { program := "ytomaojmccchibaa", sum := "5ee024f15075e1b90043bc5a0dbe3f828d7d472cfb658d94fa3e0b5a0bc1ea93", func := "paternoster/paternosterlaw04.RatesBounds", spec := "ratesBounds", inPlace := ["sync/atomic.LoadInt64", "sync/atomic.AddInt64", "sync/atomic.LoadUint32", "(*internal/sync.Mutex).Lock", "internal/race.Disable", "sync/atomic.CompareAndSwapInt32", "internal/race.Enable", "internal/race.Acquire", "(*internal/sync.Mutex).lockSlow", "internal/sync.runtime_canSpin", "internal/sync.runtime_doSpin", "internal/sync.throw", "internal/sync.runtime_nanotime", "internal/sync.runtime_SemacquireMutex", "sync/atomic.AddInt32", "(*internal/sync.Mutex).Unlock", "internal/race.ReleaseMerge", "(*internal/sync.Mutex).unlockSlow", "internal/sync.fatal", "internal/sync.runtime_Semrelease", "sync/atomic.StoreUint32"], unfollowed := true, recurses := true, apart := false, narrowed := true }
def RatesBoundsUptoSaid : Prop := ratesBoundsUptoRow.holds Try.pinned (OpenSpec.upto ratesBoundsSpec)

/-- 'paternosterlaw04.RatesTwo', WHERE WHAT IT READS IS OF BULK AT MOST 1048576: true; the input reads as it did. -/
def ratesTwoUptoRow : OpenClaim := { program := "ytomaojmccchibaa", sum := "5ee024f15075e1b90043bc5a0dbe3f828d7d472cfb658d94fa3e0b5a0bc1ea93", func := "paternoster/paternosterlaw04.RatesTwo", spec := "ratesTwo", inPlace := ["sync/atomic.LoadInt64", "sync/atomic.AddInt64", "sync/atomic.LoadUint32", "(*internal/sync.Mutex).Lock", "internal/race.Disable", "sync/atomic.CompareAndSwapInt32", "internal/race.Enable", "internal/race.Acquire", "(*internal/sync.Mutex).lockSlow", "internal/sync.runtime_canSpin", "internal/sync.runtime_doSpin", "internal/sync.throw", "internal/sync.runtime_nanotime", "internal/sync.runtime_SemacquireMutex", "sync/atomic.AddInt32", "(*internal/sync.Mutex).Unlock", "internal/race.ReleaseMerge", "(*internal/sync.Mutex).unlockSlow", "internal/sync.fatal", "internal/sync.runtime_Semrelease", "sync/atomic.StoreUint32"], unfollowed := true, recurses := true, apart := false, narrowed := true }
def RatesTwoUptoSaid : Prop := ratesTwoUptoRow.holds Try.pinned (OpenSpec.upto ratesTwoSpec)

/-- 'paternosterlaw05.ConfGrows', WHERE WHAT IT READS IS OF BULK AT MOST 1048576: true; the input reads as it did. -/
def confGrowsUptoRow : OpenClaim := { program := "ytomaojmccchibaa", sum := "5ee024f15075e1b90043bc5a0dbe3f828d7d472cfb658d94fa3e0b5a0bc1ea93", func := "paternoster/paternosterlaw05.ConfGrows", spec := "confGrows", inPlace := ["sync/atomic.AddInt64", "sync/atomic.LoadUint32", "(*internal/sync.Mutex).Lock", "internal/race.Disable", "sync/atomic.CompareAndSwapInt32", "internal/race.Enable", "internal/race.Acquire", "(*internal/sync.Mutex).lockSlow", "internal/sync.runtime_canSpin", "internal/sync.runtime_doSpin", "internal/sync.throw", "internal/sync.runtime_nanotime", "internal/sync.runtime_SemacquireMutex", "sync/atomic.AddInt32", "(*internal/sync.Mutex).Unlock", "internal/race.ReleaseMerge", "(*internal/sync.Mutex).unlockSlow", "internal/sync.fatal", "internal/sync.runtime_Semrelease", "sync/atomic.StoreUint32"], unfollowed := true, recurses := true, apart := false, narrowed := true }
def ConfGrowsUptoSaid : Prop := confGrowsUptoRow.holds Try.pinned (OpenSpec.upto confGrowsSpec)

/-- 'paternosterlaw05.ConfTells', WHERE WHAT IT READS IS OF BULK AT MOST 1048576: true; the input reads as it did. -/
def confTellsUptoRow : OpenClaim := { program := "ytomaojmccchibaa", sum := "5ee024f15075e1b90043bc5a0dbe3f828d7d472cfb658d94fa3e0b5a0bc1ea93", func := "paternoster/paternosterlaw05.ConfTells", spec := "confTells", inPlace := ["sync/atomic.AddInt64", "sync/atomic.LoadUint32", "(*internal/sync.Mutex).Lock", "internal/race.Disable", "sync/atomic.CompareAndSwapInt32", "internal/race.Enable", "internal/race.Acquire", "(*internal/sync.Mutex).lockSlow", "internal/sync.runtime_canSpin", "internal/sync.runtime_doSpin", "internal/sync.throw", "internal/sync.runtime_nanotime", "internal/sync.runtime_SemacquireMutex", "sync/atomic.AddInt32", "(*internal/sync.Mutex).Unlock", "internal/race.ReleaseMerge", "(*internal/sync.Mutex).unlockSlow", "internal/sync.fatal", "internal/sync.runtime_Semrelease", "sync/atomic.StoreUint32"], unfollowed := true, recurses := true, apart := false, narrowed := true }
def ConfTellsUptoSaid : Prop := confTellsUptoRow.holds Try.pinned (OpenSpec.upto confTellsSpec)

end Rows
end Go.Proofs.Ytomaojmccchibaa
