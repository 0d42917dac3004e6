/-
  No cell of these rows narrows 'for every input' (looked for: loops, veiled, ifaces, maps, wideKeys, modest, calm, conditions, laid).
  DERIVED. THE GIVEN ROWS OF THIS SEAT. 13 by the template 'for every input the law returns true; each argument reads behind the call as it read before'; 0 by the template 'total and deterministic' (their statements: YtnhiokgkhbiflaaTotals.lean).
  GIVEN WITH THE SEED: the statements are not yours to turn. If you find one false, say at which input.
  Laid BY PROGRAM, IN A SANDBOX (cutbox-rows.mjs): the forced cells as the released guide's own fill.sh prints them over the translation e97136fc5af1f769… (all of the seat's roots in one cut). By AI agents, Wed Nov 11 2026. No macro, syntax, notation, axiom, sorry.
-/
import Derived.Test.YtnhiokgkhbiflaaChecked
import GoSem.Claim
import GoSem.ClaimJoined
import GoSem.ClaimMapViews
import Derived.JoinedTies
import Derived.KernelRfl
namespace Go.Proofs.Ytnhiokgkhbiflaa
/- THE CELL 'sum', in the pinned program and in every row, IS THE sha256 OF THE DUMP (.gsa) THAT YtnhiokgkhbiflaaProg.lean LOADS. Nothing in Lean hashes anything: it is a label: what it is worth is what the hold of that sum in a sandbox is worth. -/
noncomputable def Try.pinned : Pinned := { name := "ytnhiokgkhbiflaa", sum := "e97136fc5af1f769c5ba23d46935ea6bee0434c26d2d254ff774e84ad34efbbd", checked := Try.checked }
namespace Rows
def none {H : Type} : Left H := { results := [], args := [] }

/-- 'paternosterlaw09.CellTells': WHATEVER THE INPUT: true; the input reads as it did. -/
def cellTellsSpec : ChangeSpec := { name := "cellTells", fn := fun _ => fun
  | [d1, d2, d3] => { results := [.lit (.bool true)], args := [d1, d2, d3] }
  | _ => none }
def cellTellsRow : OpenClaim := { program := "ytnhiokgkhbiflaa", sum := "e97136fc5af1f769c5ba23d46935ea6bee0434c26d2d254ff774e84ad34efbbd", func := "paternoster/paternosterlaw09.CellTells", spec := "cellTells", unfollowed := true, recurses := true, apart := false }
def CellTellsSaid : Prop := cellTellsRow.holds Try.pinned (OpenSpec.ofChange cellTellsSpec)

/-- ITS FALSE NEIGHBOUR: 'it returns false'. Refute it at one input. -/
def cellTellsWrong : ChangeSpec := { name := "cellTells", fn := fun _ => fun
  | [d1, d2, d3] => { results := [.lit (.bool false)], args := [d1, d2, d3] }
  | _ => none }
def CellTellsWrongFalsely : Prop := cellTellsRow.holds Try.pinned (OpenSpec.ofChange cellTellsWrong)

/-- 'paternosterlaw09.CellRuns': WHATEVER THE INPUT: true; the input reads as it did. -/
def cellRunsSpec : ChangeSpec := { name := "cellRuns", fn := fun _ => fun
  | [d1, d2] => { results := [.lit (.bool true)], args := [d1, d2] }
  | _ => none }
def cellRunsRow : OpenClaim := { program := "ytnhiokgkhbiflaa", sum := "e97136fc5af1f769c5ba23d46935ea6bee0434c26d2d254ff774e84ad34efbbd", func := "paternoster/paternosterlaw09.CellRuns", spec := "cellRuns", unfollowed := true, recurses := true, apart := false }
def CellRunsSaid : Prop := cellRunsRow.holds Try.pinned (OpenSpec.ofChange cellRunsSpec)

/-- ITS FALSE NEIGHBOUR: 'it returns false'. Refute it at one input. -/
def cellRunsWrong : ChangeSpec := { name := "cellRuns", fn := fun _ => fun
  | [d1, d2] => { results := [.lit (.bool false)], args := [d1, d2] }
  | _ => none }
def CellRunsWrongFalsely : Prop := cellRunsRow.holds Try.pinned (OpenSpec.ofChange cellRunsWrong)

/-- 'paternosterlaw09.CellBack': WHATEVER THE INPUT: true; the input reads as it did. -/
def cellBackSpec : ChangeSpec := { name := "cellBack", fn := fun _ => fun
  | [d1, d2, d3] => { results := [.lit (.bool true)], args := [d1, d2, d3] }
  | _ => none }
def cellBackRow : OpenClaim := { program := "ytnhiokgkhbiflaa", sum := "e97136fc5af1f769c5ba23d46935ea6bee0434c26d2d254ff774e84ad34efbbd", func := "paternoster/paternosterlaw09.CellBack", spec := "cellBack", unfollowed := true, recurses := true, apart := false }
def CellBackSaid : Prop := cellBackRow.holds Try.pinned (OpenSpec.ofChange cellBackSpec)

/-- ITS FALSE NEIGHBOUR: 'it returns false'. Refute it at one input. -/
def cellBackWrong : ChangeSpec := { name := "cellBack", fn := fun _ => fun
  | [d1, d2, d3] => { results := [.lit (.bool false)], args := [d1, d2, d3] }
  | _ => none }
def CellBackWrongFalsely : Prop := cellBackRow.holds Try.pinned (OpenSpec.ofChange cellBackWrong)

/-- 'paternosterlaw09.CellFull': WHATEVER THE INPUT: true; the input reads as it did. -/
def cellFullSpec : ChangeSpec := { name := "cellFull", fn := fun _ => fun
  | [d1, d2, d3] => { results := [.lit (.bool true)], args := [d1, d2, d3] }
  | _ => none }
def cellFullRow : OpenClaim := { program := "ytnhiokgkhbiflaa", sum := "e97136fc5af1f769c5ba23d46935ea6bee0434c26d2d254ff774e84ad34efbbd", func := "paternoster/paternosterlaw09.CellFull", spec := "cellFull", unfollowed := true, recurses := true, apart := false }
def CellFullSaid : Prop := cellFullRow.holds Try.pinned (OpenSpec.ofChange cellFullSpec)

/-- ITS FALSE NEIGHBOUR: 'it returns false'. Refute it at one input. -/
def cellFullWrong : ChangeSpec := { name := "cellFull", fn := fun _ => fun
  | [d1, d2, d3] => { results := [.lit (.bool false)], args := [d1, d2, d3] }
  | _ => none }
def CellFullWrongFalsely : Prop := cellFullRow.holds Try.pinned (OpenSpec.ofChange cellFullWrong)

/-- 'paternosterlaw03.SatTells': WHATEVER THE INPUT: true; the input reads as it did. -/
def satTellsSpec : ChangeSpec := { name := "satTells", fn := fun _ => fun
  | [d1, d2] => { results := [.lit (.bool true)], args := [d1, d2] }
  | _ => none }
def satTellsRow : OpenClaim := { program := "ytnhiokgkhbiflaa", sum := "e97136fc5af1f769c5ba23d46935ea6bee0434c26d2d254ff774e84ad34efbbd", func := "paternoster/paternosterlaw03.SatTells", spec := "satTells", unfollowed := true, recurses := true, apart := false }
def SatTellsSaid : Prop := satTellsRow.holds Try.pinned (OpenSpec.ofChange satTellsSpec)

/-- ITS FALSE NEIGHBOUR: 'it returns false'. Refute it at one input. -/
def satTellsWrong : ChangeSpec := { name := "satTells", fn := fun _ => fun
  | [d1, d2] => { results := [.lit (.bool false)], args := [d1, d2] }
  | _ => none }
def SatTellsWrongFalsely : Prop := satTellsRow.holds Try.pinned (OpenSpec.ofChange satTellsWrong)

/-- 'paternosterlaw03.SatSums': WHATEVER THE INPUT: true; the input reads as it did. -/
def satSumsSpec : ChangeSpec := { name := "satSums", fn := fun _ => fun
  | [d] => { results := [.lit (.bool true)], args := [d] }
  | _ => none }
def satSumsRow : OpenClaim := { program := "ytnhiokgkhbiflaa", sum := "e97136fc5af1f769c5ba23d46935ea6bee0434c26d2d254ff774e84ad34efbbd", func := "paternoster/paternosterlaw03.SatSums", spec := "satSums", unfollowed := true, recurses := true, apart := false }
def SatSumsSaid : Prop := satSumsRow.holds Try.pinned (OpenSpec.ofChange satSumsSpec)

/-- ITS FALSE NEIGHBOUR: 'it returns false'. Refute it at one input. -/
def satSumsWrong : ChangeSpec := { name := "satSums", fn := fun _ => fun
  | [d] => { results := [.lit (.bool false)], args := [d] }
  | _ => none }
def SatSumsWrongFalsely : Prop := satSumsRow.holds Try.pinned (OpenSpec.ofChange satSumsWrong)

/-- 'paternosterlaw03.SatOrders': WHATEVER THE INPUT: true; the input reads as it did. -/
def satOrdersSpec : ChangeSpec := { name := "satOrders", fn := fun _ => fun
  | [d1, d2] => { results := [.lit (.bool true)], args := [d1, d2] }
  | _ => none }
def satOrdersRow : OpenClaim := { program := "ytnhiokgkhbiflaa", sum := "e97136fc5af1f769c5ba23d46935ea6bee0434c26d2d254ff774e84ad34efbbd", func := "paternoster/paternosterlaw03.SatOrders", spec := "satOrders", unfollowed := true, recurses := true, apart := false }
def SatOrdersSaid : Prop := satOrdersRow.holds Try.pinned (OpenSpec.ofChange satOrdersSpec)

/-- ITS FALSE NEIGHBOUR: 'it returns false'. Refute it at one input. -/
def satOrdersWrong : ChangeSpec := { name := "satOrders", fn := fun _ => fun
  | [d1, d2] => { results := [.lit (.bool false)], args := [d1, d2] }
  | _ => none }
def SatOrdersWrongFalsely : Prop := satOrdersRow.holds Try.pinned (OpenSpec.ofChange satOrdersWrong)

/-- 'paternosterlaw03.SatBounds': WHATEVER THE INPUT: true; the input reads as it did. -/
def satBoundsSpec : ChangeSpec := { name := "satBounds", fn := fun _ => fun
  | [d1, d2] => { results := [.lit (.bool true)], args := [d1, d2] }
  | _ => none }
def satBoundsRow : OpenClaim := { program := "ytnhiokgkhbiflaa", sum := "e97136fc5af1f769c5ba23d46935ea6bee0434c26d2d254ff774e84ad34efbbd", func := "paternoster/paternosterlaw03.SatBounds", spec := "satBounds", unfollowed := true, recurses := true, apart := false }
def SatBoundsSaid : Prop := satBoundsRow.holds Try.pinned (OpenSpec.ofChange satBoundsSpec)

/-- ITS FALSE NEIGHBOUR: 'it returns false'. Refute it at one input. -/
def satBoundsWrong : ChangeSpec := { name := "satBounds", fn := fun _ => fun
  | [d1, d2] => { results := [.lit (.bool false)], args := [d1, d2] }
  | _ => none }
def SatBoundsWrongFalsely : Prop := satBoundsRow.holds Try.pinned (OpenSpec.ofChange satBoundsWrong)

/-- 'paternosterlaw03.SatSteps': WHATEVER THE INPUT: true; the input reads as it did. -/
def satStepsSpec : ChangeSpec := { name := "satSteps", fn := fun _ => fun
  | [d1, d2] => { results := [.lit (.bool true)], args := [d1, d2] }
  | _ => none }
def satStepsRow : OpenClaim := { program := "ytnhiokgkhbiflaa", sum := "e97136fc5af1f769c5ba23d46935ea6bee0434c26d2d254ff774e84ad34efbbd", func := "paternoster/paternosterlaw03.SatSteps", spec := "satSteps", unfollowed := true, recurses := true, apart := false }
def SatStepsSaid : Prop := satStepsRow.holds Try.pinned (OpenSpec.ofChange satStepsSpec)

/-- ITS FALSE NEIGHBOUR: 'it returns false'. Refute it at one input. -/
def satStepsWrong : ChangeSpec := { name := "satSteps", fn := fun _ => fun
  | [d1, d2] => { results := [.lit (.bool false)], args := [d1, d2] }
  | _ => none }
def SatStepsWrongFalsely : Prop := satStepsRow.holds Try.pinned (OpenSpec.ofChange satStepsWrong)

/-- 'paternosterlaw03.SatSigns': WHATEVER THE INPUT: true; the input reads as it did. -/
def satSignsSpec : ChangeSpec := { name := "satSigns", fn := fun _ => fun
  | [d1, d2] => { results := [.lit (.bool true)], args := [d1, d2] }
  | _ => none }
def satSignsRow : OpenClaim := { program := "ytnhiokgkhbiflaa", sum := "e97136fc5af1f769c5ba23d46935ea6bee0434c26d2d254ff774e84ad34efbbd", func := "paternoster/paternosterlaw03.SatSigns", spec := "satSigns", unfollowed := true, recurses := true, apart := false }
def SatSignsSaid : Prop := satSignsRow.holds Try.pinned (OpenSpec.ofChange satSignsSpec)

/-- ITS FALSE NEIGHBOUR: 'it returns false'. Refute it at one input. -/
def satSignsWrong : ChangeSpec := { name := "satSigns", fn := fun _ => fun
  | [d1, d2] => { results := [.lit (.bool false)], args := [d1, d2] }
  | _ => none }
def SatSignsWrongFalsely : Prop := satSignsRow.holds Try.pinned (OpenSpec.ofChange satSignsWrong)

/-- 'paternosterlaw11.MeterTells': WHATEVER THE INPUT: true; the input reads as it did. -/
def meterTellsSpec : ChangeSpec := { name := "meterTells", fn := fun _ => fun
  | [d] => { results := [.lit (.bool true)], args := [d] }
  | _ => none }
def meterTellsRow : OpenClaim := { program := "ytnhiokgkhbiflaa", sum := "e97136fc5af1f769c5ba23d46935ea6bee0434c26d2d254ff774e84ad34efbbd", func := "paternoster/paternosterlaw11.MeterTells", spec := "meterTells", inPlace := ["sync/atomic.StoreInt64", "sync/atomic.LoadInt64", "sync/atomic.AddInt64"], unfollowed := true, recurses := true, apart := false }
def MeterTellsSaid : Prop := meterTellsRow.holds Try.pinned (OpenSpec.ofChange meterTellsSpec)

/-- ITS FALSE NEIGHBOUR: 'it returns false'. Refute it at one input. -/
def meterTellsWrong : ChangeSpec := { name := "meterTells", fn := fun _ => fun
  | [d] => { results := [.lit (.bool false)], args := [d] }
  | _ => none }
def MeterTellsWrongFalsely : Prop := meterTellsRow.holds Try.pinned (OpenSpec.ofChange meterTellsWrong)

/-- 'paternosterlaw11.MeterOrder': WHATEVER THE INPUT: true; the input reads as it did. -/
def meterOrderSpec : ChangeSpec := { name := "meterOrder", fn := fun _ => fun
  | [d1, d2] => { results := [.lit (.bool true)], args := [d1, d2] }
  | _ => none }
def meterOrderRow : OpenClaim := { program := "ytnhiokgkhbiflaa", sum := "e97136fc5af1f769c5ba23d46935ea6bee0434c26d2d254ff774e84ad34efbbd", func := "paternoster/paternosterlaw11.MeterOrder", spec := "meterOrder", inPlace := ["sync/atomic.StoreInt64", "sync/atomic.LoadInt64", "sync/atomic.AddInt64"], unfollowed := true, recurses := true, apart := false }
def MeterOrderSaid : Prop := meterOrderRow.holds Try.pinned (OpenSpec.ofChange meterOrderSpec)

/-- ITS FALSE NEIGHBOUR: 'it returns false'. Refute it at one input. -/
def meterOrderWrong : ChangeSpec := { name := "meterOrder", fn := fun _ => fun
  | [d1, d2] => { results := [.lit (.bool false)], args := [d1, d2] }
  | _ => none }
def MeterOrderWrongFalsely : Prop := meterOrderRow.holds Try.pinned (OpenSpec.ofChange meterOrderWrong)

/-- 'paternosterlaw11.MeterHigh': WHATEVER THE INPUT: true; the input reads as it did. -/
def meterHighSpec : ChangeSpec := { name := "meterHigh", fn := fun _ => fun
  | [d] => { results := [.lit (.bool true)], args := [d] }
  | _ => none }
def meterHighRow : OpenClaim := { program := "ytnhiokgkhbiflaa", sum := "e97136fc5af1f769c5ba23d46935ea6bee0434c26d2d254ff774e84ad34efbbd", func := "paternoster/paternosterlaw11.MeterHigh", spec := "meterHigh", inPlace := ["sync/atomic.StoreInt64", "sync/atomic.LoadInt64", "sync/atomic.AddInt64"], unfollowed := true, recurses := true, apart := false }
def MeterHighSaid : Prop := meterHighRow.holds Try.pinned (OpenSpec.ofChange meterHighSpec)

/-- ITS FALSE NEIGHBOUR: 'it returns false'. Refute it at one input. -/
def meterHighWrong : ChangeSpec := { name := "meterHigh", fn := fun _ => fun
  | [d] => { results := [.lit (.bool false)], args := [d] }
  | _ => none }
def MeterHighWrongFalsely : Prop := meterHighRow.holds Try.pinned (OpenSpec.ofChange meterHighWrong)

/- THE SECOND FORM. 'bulk': how many values and letters a reading holds, each counted each time it is reached (what is shared counts as often as it is met; a slice's spare places count too). A statement '..UptoSaid' is the law's where the arguments, and the package variables that the reading takes, are together of bulk at most 1048576: NARROWER than '..Said'. Prove '..Said' where nothing that the law and all that it calls make is longer than what came in: it says more and counts as full. Else prove '..UptoSaid'. A law counts once. -/
mutual
def uptoBulk {H : Type} : DataW H → Nat
  | .lit (.string bytes) => bytes.length + 1
  | .lit _ => 1
  | .nil => 1
  | .ptr d => uptoBulk d + 1
  | .slice elems spare => uptoBulkAll elems + uptoBulkAll spare + 1
  | .agg parts => uptoBulkAll parts + 1
  | .iface _ d => uptoBulk d + 1
  | .map entries => uptoBulkEntries entries + 1
  | .held _ => 1
def uptoBulkAll {H : Type} : List (DataW H) → Nat
  | [] => 0
  | d :: r => uptoBulk d + uptoBulkAll r
def uptoBulkEntries {H : Type} : List (Lit × DataW H) → Nat
  | [] => 0
  | x :: r => uptoBulkEntry x + uptoBulkEntries r
def uptoBulkEntry {H : Type} : Lit × DataW H → Nat
  | (.string bytes, d) => bytes.length + uptoBulk d + 1
  | (_, d) => uptoBulk d + 1
 end
def uptoSmall : (H : Type) → List (DataW H) → Bool := fun _ ds => decide (uptoBulkAll ds ≤ 1048576)
def OpenSpec.upto (s : _root_.Go.ChangeSpec) : _root_.Go.OpenSpec := { _root_.Go.OpenSpec.ofChange s with cond := some uptoSmall }

/-- 'paternosterlaw09.CellTells', WHERE WHAT IT READS IS OF BULK AT MOST 1048576: true; the input reads as it did. -/
def cellTellsUptoRow : OpenClaim := { program := "ytnhiokgkhbiflaa", sum := "e97136fc5af1f769c5ba23d46935ea6bee0434c26d2d254ff774e84ad34efbbd", func := "paternoster/paternosterlaw09.CellTells", spec := "cellTells", unfollowed := true, recurses := true, apart := false, narrowed := true }
def CellTellsUptoSaid : Prop := cellTellsUptoRow.holds Try.pinned (OpenSpec.upto cellTellsSpec)

/-- 'paternosterlaw09.CellRuns', WHERE WHAT IT READS IS OF BULK AT MOST 1048576: true; the input reads as it did. -/
def cellRunsUptoRow : OpenClaim := { program := "ytnhiokgkhbiflaa", sum := "e97136fc5af1f769c5ba23d46935ea6bee0434c26d2d254ff774e84ad34efbbd", func := "paternoster/paternosterlaw09.CellRuns", spec := "cellRuns", unfollowed := true, recurses := true, apart := false, narrowed := true }
def CellRunsUptoSaid : Prop := cellRunsUptoRow.holds Try.pinned (OpenSpec.upto cellRunsSpec)

/-- 'paternosterlaw09.CellBack', WHERE WHAT IT READS IS OF BULK AT MOST 1048576: true; the input reads as it did. -/
def cellBackUptoRow : OpenClaim := { program := "ytnhiokgkhbiflaa", sum := "e97136fc5af1f769c5ba23d46935ea6bee0434c26d2d254ff774e84ad34efbbd", func := "paternoster/paternosterlaw09.CellBack", spec := "cellBack", unfollowed := true, recurses := true, apart := false, narrowed := true }
def CellBackUptoSaid : Prop := cellBackUptoRow.holds Try.pinned (OpenSpec.upto cellBackSpec)

/-- 'paternosterlaw09.CellFull', WHERE WHAT IT READS IS OF BULK AT MOST 1048576: true; the input reads as it did. -/
def cellFullUptoRow : OpenClaim := { program := "ytnhiokgkhbiflaa", sum := "e97136fc5af1f769c5ba23d46935ea6bee0434c26d2d254ff774e84ad34efbbd", func := "paternoster/paternosterlaw09.CellFull", spec := "cellFull", unfollowed := true, recurses := true, apart := false, narrowed := true }
def CellFullUptoSaid : Prop := cellFullUptoRow.holds Try.pinned (OpenSpec.upto cellFullSpec)

/-- 'paternosterlaw03.SatTells', WHERE WHAT IT READS IS OF BULK AT MOST 1048576: true; the input reads as it did. -/
def satTellsUptoRow : OpenClaim := { program := "ytnhiokgkhbiflaa", sum := "e97136fc5af1f769c5ba23d46935ea6bee0434c26d2d254ff774e84ad34efbbd", func := "paternoster/paternosterlaw03.SatTells", spec := "satTells", unfollowed := true, recurses := true, apart := false, narrowed := true }
def SatTellsUptoSaid : Prop := satTellsUptoRow.holds Try.pinned (OpenSpec.upto satTellsSpec)

/-- 'paternosterlaw03.SatSums', WHERE WHAT IT READS IS OF BULK AT MOST 1048576: true; the input reads as it did. -/
def satSumsUptoRow : OpenClaim := { program := "ytnhiokgkhbiflaa", sum := "e97136fc5af1f769c5ba23d46935ea6bee0434c26d2d254ff774e84ad34efbbd", func := "paternoster/paternosterlaw03.SatSums", spec := "satSums", unfollowed := true, recurses := true, apart := false, narrowed := true }
def SatSumsUptoSaid : Prop := satSumsUptoRow.holds Try.pinned (OpenSpec.upto satSumsSpec)

/-- 'paternosterlaw03.SatOrders', WHERE WHAT IT READS IS OF BULK AT MOST 1048576: true; the input reads as it did. -/
def satOrdersUptoRow : OpenClaim := { program := "ytnhiokgkhbiflaa", sum := "e97136fc5af1f769c5ba23d46935ea6bee0434c26d2d254ff774e84ad34efbbd", func := "paternoster/paternosterlaw03.SatOrders", spec := "satOrders", unfollowed := true, recurses := true, apart := false, narrowed := true }
def SatOrdersUptoSaid : Prop := satOrdersUptoRow.holds Try.pinned (OpenSpec.upto satOrdersSpec)

/-- 'paternosterlaw03.SatBounds', WHERE WHAT IT READS IS OF BULK AT MOST 1048576: true; the input reads as it did. -/
def satBoundsUptoRow : OpenClaim := { program := "ytnhiokgkhbiflaa", sum := "e97136fc5af1f769c5ba23d46935ea6bee0434c26d2d254ff774e84ad34efbbd", func := "paternoster/paternosterlaw03.SatBounds", spec := "satBounds", unfollowed := true, recurses := true, apart := false, narrowed := true }
def SatBoundsUptoSaid : Prop := satBoundsUptoRow.holds Try.pinned (OpenSpec.upto satBoundsSpec)

/-- 'paternosterlaw03.SatSteps', WHERE WHAT IT READS IS OF BULK AT MOST 1048576: true; the input reads as it did. -/
def satStepsUptoRow : OpenClaim := { program := "ytnhiokgkhbiflaa", sum := "e97136fc5af1f769c5ba23d46935ea6bee0434c26d2d254ff774e84ad34efbbd", func := "paternoster/paternosterlaw03.SatSteps", spec := "satSteps", unfollowed := true, recurses := true, apart := false, narrowed := true }
def SatStepsUptoSaid : Prop := satStepsUptoRow.holds Try.pinned (OpenSpec.upto satStepsSpec)

/-- 'paternosterlaw03.SatSigns', WHERE WHAT IT READS IS OF BULK AT MOST 1048576: true; the input reads as it did. -/
def satSignsUptoRow : OpenClaim := { program := "ytnhiokgkhbiflaa", sum := "e97136fc5af1f769c5ba23d46935ea6bee0434c26d2d254ff774e84ad34efbbd", func := "paternoster/paternosterlaw03.SatSigns", spec := "satSigns", unfollowed := true, recurses := true, apart := false, narrowed := true }
def SatSignsUptoSaid : Prop := satSignsUptoRow.holds Try.pinned (OpenSpec.upto satSignsSpec)

/-- 'paternosterlaw11.MeterTells', WHERE WHAT IT READS IS OF BULK AT MOST 1048576: true; the input reads as it did. -/
def meterTellsUptoRow : OpenClaim := { program := "ytnhiokgkhbiflaa", sum := "e97136fc5af1f769c5ba23d46935ea6bee0434c26d2d254ff774e84ad34efbbd", func := "paternoster/paternosterlaw11.MeterTells", spec := "meterTells", inPlace := ["sync/atomic.StoreInt64", "sync/atomic.LoadInt64", "sync/atomic.AddInt64"], unfollowed := true, recurses := true, apart := false, narrowed := true }
def MeterTellsUptoSaid : Prop := meterTellsUptoRow.holds Try.pinned (OpenSpec.upto meterTellsSpec)

/-- 'paternosterlaw11.MeterOrder', WHERE WHAT IT READS IS OF BULK AT MOST 1048576: true; the input reads as it did. -/
def meterOrderUptoRow : OpenClaim := { program := "ytnhiokgkhbiflaa", sum := "e97136fc5af1f769c5ba23d46935ea6bee0434c26d2d254ff774e84ad34efbbd", func := "paternoster/paternosterlaw11.MeterOrder", spec := "meterOrder", inPlace := ["sync/atomic.StoreInt64", "sync/atomic.LoadInt64", "sync/atomic.AddInt64"], unfollowed := true, recurses := true, apart := false, narrowed := true }
def MeterOrderUptoSaid : Prop := meterOrderUptoRow.holds Try.pinned (OpenSpec.upto meterOrderSpec)

/-- 'paternosterlaw11.MeterHigh', WHERE WHAT IT READS IS OF BULK AT MOST 1048576: true; the input reads as it did. -/
def meterHighUptoRow : OpenClaim := { program := "ytnhiokgkhbiflaa", sum := "e97136fc5af1f769c5ba23d46935ea6bee0434c26d2d254ff774e84ad34efbbd", func := "paternoster/paternosterlaw11.MeterHigh", spec := "meterHigh", inPlace := ["sync/atomic.StoreInt64", "sync/atomic.LoadInt64", "sync/atomic.AddInt64"], unfollowed := true, recurses := true, apart := false, narrowed := true }
def MeterHighUptoSaid : Prop := meterHighUptoRow.holds Try.pinned (OpenSpec.upto meterHighSpec)

end Rows
end Go.Proofs.Ytnhiokgkhbiflaa
