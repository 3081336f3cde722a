-- Printed by the kit's print.py from a list of bodies that this session turned in four places; parts of it are this session's own.
import Derived.Test.YthdmacdeefohkaaProg
import Derived.Test.YthdmacdeefohkaaLeaf
import Derived.WalkMore
import Derived.Below
import Derived.Deep.Draws
import Derived.Deep.AppendLies
import Derived.Maps.AppendAt
import Derived.OwnWalk
import Derived.Laws.BytesArg
import Derived.Laws.MakeOwn
import Derived.Laws.OwnMore
import Derived.Deep.OwnRows
import Derived.Tactics
import Derived.Lib.ConvBytes
import Derived.Laws.Slices
import Derived.WalkKit
import Derived.KernelRfl
import Derived.RowKit3
import Derived.Deep.LoopGhost
import Derived.Deep.QuietTactic
import Derived.BigQuiet
import Derived.WideLaws
import Derived.Deep.DeepCutAuto
import Derived.Deep.CutBlock
import Derived.Deep.RegionHeld3
import Derived.Laws.Rows
import Derived.Lib.AppendStr
import Derived.ArgAppend
import Derived.Laws.IdiomCopy
import Derived.OrdersHeld
import Derived.Laws.BitsLemmas
import Derived.RowKit
import Derived.Test.YthdmacdeefohkaaWWords
import Derived.Test.YthdmacdeefohkaaWLast
import Derived.Test.YthdmacdeefohkaaWTab
import Derived.Test.YthdmacdeefohkaaWFour
import Derived.Test.YthdmacdeefohkaaWQPut
import Derived.Test.YthdmacdeefohkaaWApart
import Derived.Test.YthdmacdeefohkaaWArr
import Derived.Test.YthdmacdeefohkaaWZeros
import Derived.Test.YthdmacdeefohkaaWFoot
import Derived.Test.YthdmacdeefohkaaWKept
import Derived.Test.YthdmacdeefohkaaWShare
import Derived.Test.YthdmacdeefohkaaWN
import Derived.Test.YthdmacdeefohkaaWFootNe
import Derived.Test.YthdmacdeefohkaaWAt
import Derived.Test.YthdmacdeefohkaaWEqStruct
import Derived.Test.YthdmacdeefohkaaWRepsOne
import Derived.Test.YthdmacdeefohkaaWInv
import Derived.Test.YthdmacdeefohkaaWInvWords
import Derived.Test.YthdmacdeefohkaaWGuard
import Derived.Test.YthdmacdeefohkaaWNEv
import Derived.Test.YthdmacdeefohkaaWMore
namespace Go.Proofs.Ythdmacdeefohkaa.PMa
open Go.RowKit Go.Proofs.YthdmacdeefohkaaW.PrintWords Go.Proofs.YthdmacdeefohkaaW.PrintLast Go.Proofs.YthdmacdeefohkaaW.PrintMore
attribute [local go_sem] max2_int min2_int max_two min_two max_three min_three max_four min_four   -- for this text's walks alone
set_option linter.unusedVariables false
set_option linter.unusedSimpArgs false



def errW : Option Int → Value
  | none => .nilIface
  | some c => .iface 0 (.int .i64 c)
theorem errW_none : errW none = .nilIface := rfl
theorem errW_some (c : Int) : errW (some c) = .iface 0 (.int .i64 c) := rfl

theorem info5 : (Try.prog.info? 5).map (fun i => (i.zero, i.size, i.bytes)) = some (some (.int .u8 0), 1, 1) := by kernel_rfl
theorem info45 : (Try.prog.info? 45).map (fun i => (i.zero, i.size, i.bytes)) = some (some (.agg #[(.int .i64 0), (.bool false), (.slice none 0 0), (.string ⟨#[]⟩), (.int .i64 0), (.slice none 0 0)]), 6, 88) := by kernel_rfl
theorem info123 : (Try.prog.info? 123).map (fun i => (i.zero, i.size, i.bytes)) = some (some (.int .u32 0), 1, 4) := by kernel_rfl
-- the values' own types
def rd_L3 (xs : List (List Int)) (i : Int) : (List Int) := xs.getD i.toNat ([] : List Int)
theorem at_L3 {w : World} {A : Option Addr} {n : Nat} {xs : List (List Int)} (h : Kd.C (Kd.slice 123 (Kd.int .u32)) w A n xs) (i : Int) (h0 : 0 ≤ i) (h1 : i < n) : ∃ ad A0 c0, A = some ad ∧ w.cell? (ad.add i.toNat) = some (.slice A0 (rd_L3 xs i).length c0) ∧ (rd_L3 xs i).length ≤ c0 ∧ (Kd.int .u32).C w A0 (rd_L3 xs i).length (rd_L3 xs i) := by
  obtain ⟨ad, c, e, _, hK, hc0⟩ := Kd.C_get h ([] : List Int) i h0 h1
  have hc : ∀ j u, c[j]? = some u → w.cell? (ad.add (i.toNat * 1 + j)) = some u := hc0
  obtain ⟨A0, c0, rfl, l0, g0⟩ := hK
  exact ⟨ad, A0, c0, e, by have hq := hc 0 _ rfl; rwa [Nat.mul_one, Nat.add_zero] at hq, l0, g0⟩

/-! #### struct type 42 -/
structure S42 where
  f0 : Bool
  f1 : (List Int)
def z42 : S42 := ⟨false, ([] : List Int)⟩
def k42 : Kd S42 := Kd.iso (Kd.pair Kd.bool (Kd.slice 123 (Kd.int .u32))) (fun x : S42 => (x.f0, x.f1))
theorem k42_open {w : World} {x : S42} {cs : List Value} (h : k42.K w x cs) : ∃ A1 c1, cs = [.bool x.f0, .slice A1 x.f1.length c1] ∧ x.f1.length ≤ c1 ∧ (Kd.int .u32).C w A1 x.f1.length x.f1 := by
  obtain ⟨_, _, rfl, rfl, ⟨A1, c1, rfl, l1, g1⟩⟩ := h
  exact ⟨A1, c1, rfl, l1, g1⟩
theorem k42_openM {w : World} {base : Nat} {ok : Nat → Prop} {x : S42} {cs : List Value} (h : k42.M w base ok x cs) : ∃ v1, cs = [.bool x.f0, v1] ∧ (Kd.int .u32).R 123 w base ok v1 x.f1 := by
  obtain ⟨_, _, rfl, rfl, ⟨v1, rfl, g1⟩⟩ := h
  exact ⟨v1, rfl, g1⟩
theorem k42_mk (w : World) (x : S42) {A1 : Option Addr} {c1 : Nat} (l1 : x.f1.length ≤ c1) (g1 : (Kd.int .u32).C w A1 x.f1.length x.f1) : k42.K w x [.bool x.f0, .slice A1 x.f1.length c1] := ⟨[.bool x.f0], [.slice A1 x.f1.length c1], rfl, rfl, ⟨A1, c1, rfl, l1, g1⟩⟩
theorem k42_mkM (w : World) (base : Nat) (ok : Nat → Prop) (x : S42) {v1 : Value} (g1 : (Kd.int .u32).R 123 w base ok v1 x.f1) : k42.M w base ok x [.bool x.f0, v1] := ⟨[.bool x.f0], [v1], rfl, rfl, ⟨v1, rfl, g1⟩⟩
def rd_T42 (xs : List S42) (i : Int) : S42 := xs.getD i.toNat z42
theorem at_T42 {w : World} {A : Option Addr} {n : Nat} {xs : List S42} (h : Kd.C k42 w A n xs) (i : Int) (h0 : 0 ≤ i) (h1 : i < n) : ∃ ad A1 c1, A = some ad ∧ w.cell? (ad.add (i.toNat * 2)) = some (.bool (rd_T42 xs i).f0) ∧ w.cell? ⟨(ad.add (i.toNat * 2)).block, (ad.add (i.toNat * 2)).off + 1, none⟩ = some (.slice A1 (rd_T42 xs i).f1.length c1) ∧ (rd_T42 xs i).f1.length ≤ c1 ∧ (Kd.int .u32).C w A1 (rd_T42 xs i).f1.length (rd_T42 xs i).f1 := by
  obtain ⟨ad, c, e, _, hK, hc0⟩ := Kd.C_get h z42 i h0 h1
  have hc : ∀ j u, c[j]? = some u → w.cell? (ad.add (i.toNat * 2 + j)) = some u := hc0
  obtain ⟨A1, c1, rfl, l1, g1⟩ := k42_open hK
  exact ⟨ad, A1, c1, e, hc 0 _ rfl, by rw [← add_field _ _ 1 (by omega)]; exact hc 1 _ rfl, l1, g1⟩

/-! #### struct type 45, nested in itself -/
structure S45 where
  f0 : Int
  f1 : S42
  f2 : ByteArray
  f3 : Int
  f4 : (List S45)
def z45 : S45 := ⟨(0 : Int), z42, (⟨#[]⟩ : ByteArray), (0 : Int), ([] : List S45)⟩
def F45 (d : Kd S45) : Kd S45 := Kd.iso (Kd.pair (Kd.int .i64) (Kd.pair k42 (Kd.pair Kd.string (Kd.pair (Kd.int .i64) (Kd.slice 45 d))))) (fun x : S45 => (x.f0, x.f1, x.f2, x.f3, x.f4))
theorem mono45 : Kd.Mono F45 := Kd.mono_iso _ (Kd.mono_pair (Kd.mono_const _) (Kd.mono_pair (Kd.mono_const _) (Kd.mono_pair (Kd.mono_const _) (Kd.mono_pair (Kd.mono_const _) (Kd.mono_slice 45 Kd.mono_id)))))
theorem sub45 : Kd.Sub F45 [45, 123] := Kd.sub_iso _ (Kd.sub_pair (Kd.sub_const _ (by decide)) (Kd.sub_pair (Kd.sub_const _ (by decide)) (Kd.sub_pair (Kd.sub_const _ (by decide)) (Kd.sub_pair (Kd.sub_const _ (by decide)) (Kd.sub_slice 45 (by decide) Kd.sub_id)))))
theorem sz45 : ∀ n, (Kd.upto F45 6 [45, 123] n).sz = 6 := Kd.upto_sz (fun _ => rfl)
def k45 : Kd S45 := Kd.fix F45 6 [45, 123] sz45 (Kd.upto_E sub45)
theorem k45_open {w : World} {x : S45} {cs : List Value} (h : k45.K w x cs) : ∃ A2 c2 A5 c5, cs = [.int .i64 x.f0, .bool x.f1.f0, .slice A2 x.f1.f1.length c2, .string x.f2, .int .i64 x.f3, .slice A5 x.f4.length c5] ∧ x.f1.f1.length ≤ c2 ∧ (Kd.int .u32).C w A2 x.f1.f1.length x.f1.f1 ∧ x.f4.length ≤ c5 ∧ k45.C w A5 x.f4.length x.f4 := by
  obtain ⟨n, h⟩ := h
  cases n with
  | zero => exact h.elim
  | succ n =>
    obtain ⟨_, _, rfl, rfl, ⟨_, _, rfl, s1, ⟨_, _, rfl, rfl, ⟨_, _, rfl, rfl, ⟨A5, c5, rfl, l5, g5⟩⟩⟩⟩⟩ := h
    obtain ⟨A2, c2, rfl, l2, g2⟩ := k42_open s1
    exact ⟨A2, c2, A5, c5, rfl, l2, g2, l5, Kd.fix_C g5⟩
theorem k45_openM {w : World} {base : Nat} {ok : Nat → Prop} {x : S45} {cs : List Value} (h : k45.M w base ok x cs) : ∃ v2 v5, cs = [.int .i64 x.f0, .bool x.f1.f0, v2, .string x.f2, .int .i64 x.f3, v5] ∧ (Kd.int .u32).R 123 w base ok v2 x.f1.f1 ∧ k45.R 45 w base ok v5 x.f4 := by
  obtain ⟨n, h⟩ := h
  cases n with
  | zero => exact h.elim
  | succ n =>
    obtain ⟨_, _, rfl, rfl, ⟨_, _, rfl, s1, ⟨_, _, rfl, rfl, ⟨_, _, rfl, rfl, ⟨v5, rfl, g5⟩⟩⟩⟩⟩ := h
    obtain ⟨v2, rfl, g2⟩ := k42_openM s1
    exact ⟨v2, v5, rfl, g2, Kd.fix_R g5⟩
theorem k45_mk (w : World) (x : S45) {A2 : Option Addr} {c2 : Nat} (l2 : x.f1.f1.length ≤ c2) (g2 : (Kd.int .u32).C w A2 x.f1.f1.length x.f1.f1) {A5 : Option Addr} {c5 : Nat} (l5 : x.f4.length ≤ c5) (g5 : k45.C w A5 x.f4.length x.f4) : k45.K w x [.int .i64 x.f0, .bool x.f1.f0, .slice A2 x.f1.f1.length c2, .string x.f2, .int .i64 x.f3, .slice A5 x.f4.length c5] := by
  obtain ⟨n5, q5⟩ := Kd.fix_C_back mono45 g5
  have r5 := Kd.upto_C_le mono45 sz45 (show n5 ≤ n5 by omega) q5
  exact ⟨n5 + 1, ⟨[.int .i64 x.f0], [.bool x.f1.f0, .slice A2 x.f1.f1.length c2, .string x.f2, .int .i64 x.f3, .slice A5 x.f4.length c5], rfl, rfl, ⟨[.bool x.f1.f0, .slice A2 x.f1.f1.length c2], [.string x.f2, .int .i64 x.f3, .slice A5 x.f4.length c5], rfl, (k42_mk w x.f1 l2 g2), ⟨[.string x.f2], [.int .i64 x.f3, .slice A5 x.f4.length c5], rfl, rfl, ⟨[.int .i64 x.f3], [.slice A5 x.f4.length c5], rfl, rfl, ⟨A5, c5, rfl, l5, r5⟩⟩⟩⟩⟩⟩
theorem k45_mkM (w : World) (base : Nat) (ok : Nat → Prop) (x : S45) {v2 : Value} (g2 : (Kd.int .u32).R 123 w base ok v2 x.f1.f1) {v5 : Value} (g5 : k45.R 45 w base ok v5 x.f4) : k45.M w base ok x [.int .i64 x.f0, .bool x.f1.f0, v2, .string x.f2, .int .i64 x.f3, v5] := by
  obtain ⟨n5, q5⟩ := Kd.fix_R_back mono45 g5
  have r5 := Kd.upto_R_le mono45 sz45 (show n5 ≤ n5 by omega) q5
  exact ⟨n5 + 1, ⟨[.int .i64 x.f0], [.bool x.f1.f0, v2, .string x.f2, .int .i64 x.f3, v5], rfl, rfl, ⟨[.bool x.f1.f0, v2], [.string x.f2, .int .i64 x.f3, v5], rfl, (k42_mkM w base ok x.f1 g2), ⟨[.string x.f2], [.int .i64 x.f3, v5], rfl, rfl, ⟨[.int .i64 x.f3], [v5], rfl, rfl, ⟨v5, rfl, r5⟩⟩⟩⟩⟩⟩
def rd_T45 (xs : List S45) (i : Int) : S45 := xs.getD i.toNat z45
theorem at_T45 {w : World} {A : Option Addr} {n : Nat} {xs : List S45} (h : Kd.C k45 w A n xs) (i : Int) (h0 : 0 ≤ i) (h1 : i < n) : ∃ ad A2 c2 A5 c5, A = some ad ∧ w.cell? (ad.add (i.toNat * 6)) = some (.int .i64 (rd_T45 xs i).f0) ∧ w.cell? ⟨(ad.add (i.toNat * 6)).block, (ad.add (i.toNat * 6)).off + 1, none⟩ = some (.bool (rd_T45 xs i).f1.f0) ∧ w.cell? ⟨(ad.add (i.toNat * 6)).block, (ad.add (i.toNat * 6)).off + 2, none⟩ = some (.slice A2 (rd_T45 xs i).f1.f1.length c2) ∧ w.cell? ⟨(ad.add (i.toNat * 6)).block, (ad.add (i.toNat * 6)).off + 3, none⟩ = some (.string (rd_T45 xs i).f2) ∧ w.cell? ⟨(ad.add (i.toNat * 6)).block, (ad.add (i.toNat * 6)).off + 4, none⟩ = some (.int .i64 (rd_T45 xs i).f3) ∧ w.cell? ⟨(ad.add (i.toNat * 6)).block, (ad.add (i.toNat * 6)).off + 5, none⟩ = some (.slice A5 (rd_T45 xs i).f4.length c5) ∧ (rd_T45 xs i).f1.f1.length ≤ c2 ∧ (Kd.int .u32).C w A2 (rd_T45 xs i).f1.f1.length (rd_T45 xs i).f1.f1 ∧ (rd_T45 xs i).f4.length ≤ c5 ∧ k45.C w A5 (rd_T45 xs i).f4.length (rd_T45 xs i).f4 := by
  obtain ⟨ad, c, e, _, hK, hc0⟩ := Kd.C_get h z45 i h0 h1
  have hc : ∀ j u, c[j]? = some u → w.cell? (ad.add (i.toNat * 6 + j)) = some u := hc0
  obtain ⟨A2, c2, A5, c5, rfl, l2, g2, l5, g5⟩ := k45_open hK
  exact ⟨ad, A2, c2, A5, c5, e, hc 0 _ rfl, by rw [← add_field _ _ 1 (by omega)]; exact hc 1 _ rfl, by rw [← add_field _ _ 2 (by omega)]; exact hc 2 _ rfl, by rw [← add_field _ _ 3 (by omega)]; exact hc 3 _ rfl, by rw [← add_field _ _ 4 (by omega)]; exact hc 4 _ rfl, by rw [← add_field _ _ 5 (by omega)]; exact hc 5 _ rfl, l2, g2, l5, g5⟩

set_option maxRecDepth 100000 in
theorem field_S (W : World) (a b c d e f : Value) : (Instr.field 45 (.agg #[a, b, c, d, e, f]) 2).run Try.prog W = .ok d W := by kernel_rfl
set_option maxRecDepth 100000 in
theorem field_0 (W : World) (a b c d e f : Value) : (Instr.field 45 (.agg #[a, b, c, d, e, f]) 0).run Try.prog W = .ok a W := by kernel_rfl
end Go.Proofs.Ythdmacdeefohkaa.PMa
