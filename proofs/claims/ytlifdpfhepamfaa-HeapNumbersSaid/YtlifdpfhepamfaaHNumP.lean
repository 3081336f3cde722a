/- HeapNumbers: the plain law: powers of two, below and above what is small. -/
import Derived.Test.YtlifdpfhepamfaaOpM
import Derived.Test.YtlifdpfhepamfaaHo
import Derived.Test.YtlifdpfhepamfaaNof
namespace Go.Proofs.YtlifdpfhepamfaaHNumP
open Go.RowKit Go.Proofs.YtlifdpfhepamfaaW.PrintWords Go.Proofs.YtlifdpfhepamfaaW.PrintLast Go.Proofs.YtlifdpfhepamfaaW.PrintMore Go.Proofs.YtlifdpfhepamfaaMem Go.Proofs.YtlifdpfhepamfaaLeaf Go.Proofs.YtlifdpfhepamfaaBits Go.Proofs.Ytlifdpfhepamfaa.PHe Go.Proofs.YtlifdpfhepamfaaHn Go.Proofs.YtlifdpfhepamfaaHo Go.Proofs.YtlifdpfhepamfaaNof Go.Proofs
set_option linter.unusedVariables false
def F : Nat := 60
/-- A power of two, as limbs. -/
def v0 (k : Nat) : List Int := match relictref02_shift.f F false [1] (k : Int) true with
  | some (_, xs, _) => xs
  | none => []
/-- .. less one. -/
def v1 (k : Nat) (neg : Bool) : Bool × List Int := match relictref02_add.f F neg (v0 k) true [1] with
  | some (s, xs, _) => (s, xs)
  | none => (false, [])
def fin_ (k : Nat) (neg less : Bool) : Bool × List Int := if less then v1 k neg else (neg, v0 k)
def isSmall (k : Nat) (neg less : Bool) : Bool := decide (k < 59) || (decide (k = 59) && (neg != less))
def z_ (sg : Bool) (xs : List Int) : Int := (intN true sg xs).1
def chk0 (k : Nat) : Bool :=
  decide (relictref02_far.f F false (limbs (k : Int)) = some (k : Int)) && decide (relictref02_shift.f F false [1] (k : Int) true = some (false, v0 k, true)) && decide (relictref02_Check.f false (limbs (k : Int)) = some true)
  && decide (relictref02_Check.f false (v0 k) = some true) && decide (relictref02_Check.f true (v0 k) = some true) && decide (relictref02_made.f F true (v0 k) = some (true, v0 k, true))
def chk (k : Nat) (neg less : Bool) : Bool :=
  decide (relictref02_add.f F neg (v0 k) true [1] = some ((v1 k neg).1, (v1 k neg).2, true))
  && decide (relictref02_Check.f (fin_ k neg less).1 (fin_ k neg less).2 = some true) && decide (num_Check.f (fin_ k neg less).1 (fin_ k neg less).2 = some true)
  && (fin_ k neg less).2.all (fun x => decide (0 ≤ x) && decide (x < 4294967296)) && decide ((fin_ k neg less).2.length ≤ 12) && decide (relictref01_Cmp.f F (fin_ k neg less).2 (fin_ k neg less).2 = some 0)
  && decide (smallN true (fin_ k neg less).1 (fin_ k neg less).2 = isSmall k neg less)
  && (if isSmall k neg less then decide (-576460752303423488 ≤ z_ (fin_ k neg less).1 (fin_ k neg less).2) && decide (z_ (fin_ k neg less).1 (fin_ k neg less).2 < 576460752303423488)
      && decide (decide (z_ (fin_ k neg less).1 (fin_ k neg less).2 < 0) = (fin_ k neg less).1) && decide (limbs (absI (z_ (fin_ k neg less).1 (fin_ k neg less).2)) = (fin_ k neg less).2)
    else decide (0 < (fin_ k neg less).2.length))
set_option maxRecDepth 100000 in
theorem one_ok : relictref02_Check.f false [1] = some true ∧ relictref02_made.f F true [1] = some (true, [1], true) := ⟨by kernel_rfl, by kernel_rfl⟩
set_option maxRecDepth 100000 in
theorem all0 : (List.range 200).all (fun k => chk0 k) = true := by kernel_rfl
set_option maxRecDepth 100000 in
theorem all1 : (List.range 200).all (fun k => chk k false false && chk k false true && chk k true false && chk k true true) = true := by kernel_rfl
end Go.Proofs.YtlifdpfhepamfaaHNumP
