/- Plain facts on the bits of whole numbers: masks and joins. -/
import Derived.Laws.BitsLemmas
import Derived.RowKit
namespace Go.Proofs.YthdmacdeefohkaaBits
open Go Go.RowKit

/-- As Option.bind_some, but not by rfl: so that the kernel need not reckon a long chain. -/
theorem bindS {α β : Type} (a : α) (f : α → Option β) : (some a).bind f = f a := by rw [Option.bind_some]
theorem wrap_u64 (n : Int) : IntKind.u64.wrap n = n % 18446744073709551616 := by simp [IntKind.wrap, IntKind.bits, IntKind.signed]

theorem and_mask_u64 (i : Nat) (hi : i ≤ 63) (x : Int) : bits .and .u64 x (2 ^ i - 1) = x % 2 ^ i := by
  have hpos : 0 < 2 ^ i := Nat.two_pow_pos i
  have hlt : 2 ^ i - 1 < 2 ^ 64 := Nat.lt_of_lt_of_le (Nat.sub_lt hpos (by decide)) (Nat.pow_le_pow_right (by decide) (by omega))
  have hc : ((2 : Int) ^ i - 1) = ((2 ^ i - 1 : Nat) : Int) := by rw [Int.natCast_sub hpos]; simp
  have e : ((BitVec.ofInt 64 x &&& BitVec.ofInt 64 (((2 ^ i - 1 : Nat)) : Int)).toNat : Int) = x % 2 ^ i := by
    rw [BitVec.toNat_and, BitVec.ofInt_natCast, BitVec.toNat_ofNat, Nat.mod_eq_of_lt hlt, Nat.and_two_pow_sub_one_eq_mod, BitVec.toNat_ofInt]
    have hp : (0 : Int) < 2 ^ 64 := by decide
    have h0 : 0 ≤ x % (2 ^ 64 : Nat) := Int.emod_nonneg _ (by decide)
    rw [Int.natCast_emod, Int.toNat_of_nonneg h0]
    have hd : ((2 ^ i : Nat) : Int) ∣ ((2 ^ 64 : Nat) : Int) := Int.natCast_dvd_natCast.2 (Nat.pow_dvd_pow 2 (by omega))
    rw [Int.emod_emod_of_dvd x hd]; simp
  have hb : bits .and .u64 x ((2 ^ i - 1 : Nat) : Int) = IntKind.u64.wrap ((BitVec.ofInt 64 x &&& BitVec.ofInt 64 ((2 ^ i - 1 : Nat) : Int)).toNat : Int) := rfl
  rw [hc, hb, e, wrap_u64]
  have h1 : 0 ≤ x % 2 ^ i := Int.emod_nonneg _ (by have := Int.pow_pos (n := 2) (m := i) (by decide); omega)
  have h2 : x % 2 ^ i < 2 ^ i := Int.emod_lt_of_pos _ (Int.pow_pos (by decide))
  have h3 : (2 : Int) ^ i ≤ 2 ^ 64 := by exact_mod_cast Nat.pow_le_pow_right (n := 2) (by decide) (show i ≤ 64 by omega)
  omega

theorem and_mask_i64 (i : Nat) (hi : i ≤ 62) (x : Int) : bits .and .i64 x (2 ^ i - 1) = x % 2 ^ i := by
  have hpos : 0 < 2 ^ i := Nat.two_pow_pos i
  have hlt : 2 ^ i - 1 < 2 ^ 64 := Nat.lt_of_lt_of_le (Nat.sub_lt hpos (by decide)) (Nat.pow_le_pow_right (by decide) (by omega))
  have hc : ((2 : Int) ^ i - 1) = ((2 ^ i - 1 : Nat) : Int) := by rw [Int.natCast_sub hpos]; simp
  have e : ((BitVec.ofInt 64 x &&& BitVec.ofInt 64 (((2 ^ i - 1 : Nat)) : Int)).toNat : Int) = x % 2 ^ i := by
    rw [BitVec.toNat_and, BitVec.ofInt_natCast, BitVec.toNat_ofNat, Nat.mod_eq_of_lt hlt, Nat.and_two_pow_sub_one_eq_mod, BitVec.toNat_ofInt]
    have hp : (0 : Int) < 2 ^ 64 := by decide
    have h0 : 0 ≤ x % (2 ^ 64 : Nat) := Int.emod_nonneg _ (by decide)
    rw [Int.natCast_emod, Int.toNat_of_nonneg h0]
    have hd : ((2 ^ i : Nat) : Int) ∣ ((2 ^ 64 : Nat) : Int) := Int.natCast_dvd_natCast.2 (Nat.pow_dvd_pow 2 (by omega))
    rw [Int.emod_emod_of_dvd x hd]; simp
  have hb : bits .and .i64 x ((2 ^ i - 1 : Nat) : Int) = IntKind.i64.wrap ((BitVec.ofInt 64 x &&& BitVec.ofInt 64 ((2 ^ i - 1 : Nat) : Int)).toNat : Int) := rfl
  rw [hc, hb, e, IntKind.wrap_i64]
  have h1 : 0 ≤ x % 2 ^ i := Int.emod_nonneg _ (by have := Int.pow_pos (n := 2) (m := i) (by decide); omega)
  have h2 : x % 2 ^ i < 2 ^ i := Int.emod_lt_of_pos _ (Int.pow_pos (by decide))
  have h3 : (2 : Int) ^ i ≤ 2 ^ 62 := by exact_mod_cast Nat.pow_le_pow_right (n := 2) (by decide) (show i ≤ 62 by omega)
  omega

theorem u64_and3 (x : Int) : bits .and .u64 x 3 = x % 4 := and_mask_u64 2 (by decide) x
theorem u64_and15 (x : Int) : bits .and .u64 x 15 = x % 16 := and_mask_u64 4 (by decide) x
theorem i64_and3 (x : Int) : bits .and .i64 x 3 = x % 4 := and_mask_i64 2 (by decide) x
theorem i64_and15 (x : Int) : bits .and .i64 x 15 = x % 16 := and_mask_i64 4 (by decide) x

theorem or_join (i : Nat) (x y : Int) (hx0 : 0 ≤ x) (hx : x % 2 ^ i = 0) (hx1 : x < 18446744073709551616) (hy0 : 0 ≤ y) (hy : y < 2 ^ i) (hy1 : y < 18446744073709551616) : bits .or .u64 x y = x + y :=
  bits_join .u64 64 (by decide) (fun n h0 h1 => by rw [wrap_u64]; omega) i x y hx0 hx (by omega) hy0 hy (by omega)

end Go.Proofs.YthdmacdeefohkaaBits
