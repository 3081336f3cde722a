/- MatchAll, the plain part: the program's answers and the document's are one; a light term is copied whole. -/
import Derived.Test.YthdmacdeefohkaaMVal
import Derived.Test.YthdmacdeefohkaaPMa7
import Derived.Test.YthdmacdeefohkaaPMa8
import Derived.Test.YthdmacdeefohkaaPMa9
import Derived.Test.YthdmacdeefohkaaPMa10
import Derived.Test.YthdmacdeefohkaaPMa11
namespace Go.Proofs.YthdmacdeefohkaaMAllP
open Go.RowKit Go.Proofs.YthdmacdeefohkaaW.PrintWords Go.Proofs.YthdmacdeefohkaaW.PrintLast Go.Proofs.YthdmacdeefohkaaW.PrintMore Go.Proofs.YthdmacdeefohkaaMem Go.Proofs.YthdmacdeefohkaaLeaf Go.Proofs.YthdmacdeefohkaaBits Go.Proofs.Ythdmacdeefohkaa.PMa Go.Proofs.YthdmacdeefohkaaMTerm Go.Proofs.YthdmacdeefohkaaMVal Go.Proofs
set_option linter.unusedVariables false
set_option linter.unusedSimpArgs false
theorem lift {α : Type} {f : Nat → Option α} (hm : ∀ k, LeO (f k) (f (k + 1))) {a b : Nat} (hab : a ≤ b) {r : α} (h : f a = some r) : f b = some r := by
  induction b with
  | zero => obtain rfl : a = 0 := by omega
            exact h
  | succ b ih =>
    by_cases he : a = b + 1
    · subst he; exact h
    · exact hm b r (ih (by omega))
theorem light_less (m : Nat) (hm : m ≤ 1000) (k : Nat) (kind : Int) (neg : Bool) (l : List Int) (s : ByteArray) (N : Int) (kids : List S45) (r : Int) (h : relictlaw00_light.f k kind neg l s N kids (m : Int) = some r) : r < (m : Int) := by
  obtain ⟨k0, r0, h0, h1, _⟩ := light_total m kind neg l s N kids hm
  have e1 := lift (f := fun k => relictlaw00_light.f k kind neg l s N kids (m : Int)) (fun k => (relictlaw00_light.mono_l k).1 _ _ _ _ _ _ _) (Nat.le_max_left k k0) h
  have e2 := lift (f := fun k => relictlaw00_light.f k kind neg l s N kids (m : Int)) (fun k => (relictlaw00_light.mono_l k).1 _ _ _ _ _ _ _) (Nat.le_max_right k k0) h0
  have e3 : some r = some r0 := e1.symm.trans e2
  injection e3 with e2
  omega
theorem light_neg (k : Nat) (x1 i : Int) (kind : Int) (neg : Bool) (l : List Int) (s : ByteArray) (N : Int) (kids : List S45) (r : Int) (hx : x1 < 0) (h : relictlaw00_light.l0 k x1 i kind neg l s N kids = some r) : r = x1 := by
  cases k with
  | zero => simp [relictlaw00_light.l0] at h
  | succ k =>
    simp only [relictlaw00_light.l0] at h
    split at h
    · rw [if_neg (by omega)] at h; injection h with h; exact h.symm
    · injection h with h; exact h.symm
theorem term_total : ∀ (m : Nat), m ≤ 1000 → ∀ (k : Nat) (kind : Int) (neg : Bool) (l : List Int) (s : ByteArray) (N : Int) (kids : List S45) (r : Int), relictlaw00_light.f k kind neg l s N kids (m : Int) = some r → 0 ≤ r →
    ∃ k' kids', relictlaw00_Term.f k' kind neg l s N kids = some (kind, neg, l, s, N, kids') := by
  intro m
  induction m using Nat.strongRecOn with
  | ind m ih =>
    intro hm k kind neg l s N kids r h hr
    have hw : wrap64 ((m : Int) - 1) = (m : Int) - 1 := by unfold wrap64; omega
    have loop : ∀ (kk : Nat) (x1 : Int) (i : Nat) (acc : List S45), relictlaw00_light.l0 kk x1 (i : Int) kind neg l s N kids = some r → x1 < (m : Int) → (i : Int) + x1 ≤ (m : Int) → acc.length = i → i ≤ 2000 →
        ∃ k' kids', relictlaw00_Term.l0 k' (i : Int) kind neg l s N kids kind neg l s N acc = some (kind, neg, l, s, N, kids') := by
      intro kk
      induction kk with
      | zero => intro x1 i acc h; simp [relictlaw00_light.l0] at h
      | succ kk ihk =>
        intro x1 i acc h h1 hi hacc hi2
        simp only [relictlaw00_light.l0] at h
        by_cases hlt : (i : Int) < (kids.length : Int)
        · rw [if_pos hlt] at h
          by_cases hx : x1 ≥ 0
          · rw [if_pos hx, if_pos (by omega)] at h
            obtain ⟨t, ht, h'⟩ := Option.bind_eq_some_iff.1 h
            replace h' : relictlaw00_light.l0 kk t (wrap64 ((i : Int) + 1)) kind neg l s N kids = some r := h'
            clear h
            obtain ⟨n, rfl⟩ : ∃ n : Nat, x1 = (n : Int) := ⟨x1.toNat, by omega⟩
            have htn := light_less n (by omega) kk _ _ _ _ _ _ t ht
            have hw1 : wrap64 ((i : Int) + 1) = ((i + 1 : Nat) : Int) := by unfold wrap64; omega
            rw [hw1] at h'
            have ht0 : 0 ≤ t := by
              by_cases h0 : 0 ≤ t
              · exact h0
              · have := light_neg kk t _ kind neg l s N kids r (by omega) h'
                omega
            obtain ⟨k1, kids1, e1⟩ := ih n (by omega) (by omega) kk _ _ _ _ _ _ t ht ht0
            obtain ⟨k2, kids2, e2⟩ := ihk t (i + 1) (acc ++ [⟨(rd_T45 kids (i : Int)).f0, ⟨(rd_T45 kids (i : Int)).f1.f0, (rd_T45 kids (i : Int)).f1.f1⟩, (rd_T45 kids (i : Int)).f2, (rd_T45 kids (i : Int)).f3, kids1⟩]) h' (by omega) (by omega) (by simp [hacc]) (by omega)
            refine ⟨max k1 k2 + 1, kids2, ?_⟩
            simp only [relictlaw00_Term.l0]
            rw [if_pos hlt, if_pos (by omega), lift (f := fun k => relictlaw00_Term.f k (rd_T45 kids (i : Int)).f0 (rd_T45 kids (i : Int)).f1.f0 (rd_T45 kids (i : Int)).f1.f1 (rd_T45 kids (i : Int)).f2 (rd_T45 kids (i : Int)).f3 (rd_T45 kids (i : Int)).f4) (fun k => (relictlaw00_Term.mono_l k).1 _ _ _ _ _ _) (Nat.le_max_left k1 k2) e1, bindS, if_pos (by rw [hacc]; omega), hw1]
            exact lift (f := fun k => relictlaw00_Term.l0 k ((i + 1 : Nat) : Int) kind neg l s N kids kind neg l s N (acc ++ [⟨(rd_T45 kids (i : Int)).f0, ⟨(rd_T45 kids (i : Int)).f1.f0, (rd_T45 kids (i : Int)).f1.f1⟩, (rd_T45 kids (i : Int)).f2, (rd_T45 kids (i : Int)).f3, kids1⟩])) (fun k => (relictlaw00_Term.mono_l k).2 _ _ _ _ _ _ _ _ _ _ _ _ _) (Nat.le_max_right k1 k2) e2
          · rw [if_neg hx] at h
            injection h with h
            omega
        · refine ⟨1, acc, ?_⟩
          simp only [relictlaw00_Term.l0]
          rw [if_neg hlt]
    cases k with
    | zero => simp [relictlaw00_light.f] at h
    | succ k =>
      simp only [relictlaw00_light.f] at h
      have fin : ∀ b, relictlaw00_light.j0 k (wrap64 ((m : Int) - 1)) b kind neg l s N kids = some r → b = false ∧ ∃ kk, relictlaw00_light.l0 kk ((m : Int) - 1) 0 kind neg l s N kids = some r := by
        intro b hb
        cases k with
        | zero => simp [relictlaw00_light.j0] at hb
        | succ k =>
          simp only [relictlaw00_light.j0] at hb
          cases b with
          | true => rw [if_pos rfl] at hb; injection hb with hb; omega
          | false => rw [if_neg (by decide), hw] at hb; exact ⟨rfl, k, hb⟩
      by_cases h40 : (l.length : Int) > 40
      · rw [if_pos h40] at h
        exact absurd (fin true h).1 (by decide)
      · rw [if_neg h40] at h
        obtain ⟨_, kk, hk⟩ := fin _ h
        obtain ⟨k', kids', e⟩ := loop kk ((m : Int) - 1) 0 [] hk (by omega) (by omega) rfl (by omega)
        refine ⟨k' + 1, kids', ?_⟩
        simp only [relictlaw00_Term.f]
        unfold relictlaw00_Num.f relictlaw00_Limbs.f
        rw [if_pos (by omega), bindS, bindS]
        exact e
theorem light_size (k : Nat) (x : S45) (h : relictlaw00_Light.f k x.f0 x.f1.f0 x.f1.f1 x.f2 x.f3 x.f4 100 = some true) : x.f2.size ≤ 500 ∧ ∃ k' kids', relictlaw00_Term.f k' x.f0 x.f1.f0 x.f1.f1 x.f2 x.f3 x.f4 = some (x.f0, x.f1.f0, x.f1.f1, x.f2, x.f3, kids') := by
  unfold relictlaw00_Light.f at h
  obtain ⟨t, ht, h⟩ := Option.bind_eq_some_iff.1 h
  have h0 : 0 ≤ t := by simpa using h
  refine ⟨?_, term_total 100 (by omega) k _ _ _ _ _ _ t ht h0⟩
  cases k with
  | zero => simp [relictlaw00_light.f] at ht
  | succ k =>
    simp only [relictlaw00_light.f] at ht
    split at ht
    · cases k with
      | zero => simp [relictlaw00_light.j0] at ht
      | succ k => simp only [relictlaw00_light.j0] at ht; rw [if_pos trivial] at ht; injection ht with ht; omega
    · cases k with
      | zero => simp [relictlaw00_light.j0] at ht
      | succ k =>
        simp only [relictlaw00_light.j0] at ht
        by_cases hs : (x.f2.size : Int) > 500
        · rw [if_pos (decide_eq_true hs)] at ht; injection ht with ht; omega
        · omega
/-! ### the document's answers -/
theorem rat_any (x : S45) : relictref20_at.f x.f0 x.f1.f0 x.f1.f1 x.f2 x.f3 x.f4 = some (atP x : Int) := by
  unfold relictref20_at.f atP mx mn
  congr 1
  (repeat' split) <;> omega
theorem rleft_any (x : S45) (h8 : x.f0 = 8) (hs : x.f2.size ≤ 1000000) : relictref20_Left.f x.f0 x.f1.f0 x.f1.f1 x.f2 x.f3 x.f4 = some ((x.f2.size - atP x : Nat) : Int) := by
  unfold relictref20_Left.f
  rw [if_pos h8, rat_any x, bindS]
  have := atP_le x
  unfold wrap64; congr 1; omega
theorem rleft_none (x : S45) (h : x.f0 ≠ 8) : relictref20_Left.f x.f0 x.f1.f0 x.f1.f1 x.f2 x.f3 x.f4 = some (-1) := by unfold relictref20_Left.f; rw [if_neg h]
theorem rbehind_any (x : S45) (n : Nat) (hn : n ≤ 1000000) (hs : x.f2.size ≤ 1000000) : relictref20_behind.f x.f0 x.f1.f0 x.f1.f1 x.f2 x.f3 x.f4 (n : Int) = some (8, false, [], x.f2, ((atP x + n : Nat) : Int), []) := by
  unfold relictref20_behind.f
  rw [rat_any x, bindS]
  have := atP_le x
  have hw : wrap64 ((atP x : Int) + (n : Int)) = ((atP x + n : Nat) : Int) := by unfold wrap64; omega
  rw [hw]
theorem rnumber_loop (x : S45) (hs : x.f2.size ≤ 1000000) (n : Nat) (hn : n ≤ 7) (hp : atP x + n ≤ x.f2.size) : ∀ (d j k : Nat), j + d = n → d + 2 ≤ k →
    relictref20_Number.l0 k (n : Int) (valS x.f2 (atP x) j) (j : Int) x.f0 x.f1.f0 x.f1.f1 x.f2 x.f3 x.f4 = some (1, false, limbs (valS x.f2 (atP x) n), ⟨#[]⟩, 0, [], 8, false, [], x.f2, ((atP x + n : Nat) : Int), [], true) := by
  intro d
  induction d with
  | zero =>
    intro j k hj hk
    obtain rfl : j = n := by omega
    obtain ⟨k, rfl⟩ : ∃ m, k = m + 1 := ⟨k - 1, by omega⟩
    have hv := valS_small x.f2 (atP x) j hn
    simp only [relictref20_Number.l0]
    rw [if_neg (by omega)]
    unfold relictref19_Int.f relictref02_Of.f
    rw [if_pos hv.1, if_pos (by omega), bindS, bindS, rbehind_any x j (by omega) hs, bindS]
  | succ d ih =>
    intro j k hj hk
    obtain ⟨k, rfl⟩ : ∃ m, k = m + 1 := ⟨k - 1, by omega⟩
    have hv := valS_small x.f2 (atP x) j (by omega)
    have hv1 := valS_small x.f2 (atP x) (j + 1) (by omega)
    have hb := bt_range x.f2 ((atP x + j : Nat) : Int)
    have hw : wrap64 ((atP x : Int) + (j : Int)) = ((atP x + j : Nat) : Int) := by unfold wrap64; omega
    have hw2 : wrap64 ((j : Int) + 1) = ((j + 1 : Nat) : Int) := by unfold wrap64; omega
    have ihh := ih (j + 1) k (by omega) (by omega)
    simp only [valS] at hv1 ihh
    have hw3 : wrap64 (valS x.f2 (atP x) j * 256) = valS x.f2 (atP x) j * 256 := by unfold wrap64; omega
    have hw4 : wrap64 (bt x.f2 ((atP x + j : Nat) : Int)) = bt x.f2 ((atP x + j : Nat) : Int) := by unfold wrap64; omega
    have hw5 : wrap64 (valS x.f2 (atP x) j * 256 + bt x.f2 ((atP x + j : Nat) : Int)) = valS x.f2 (atP x) j * 256 + bt x.f2 ((atP x + j : Nat) : Int) := by unfold wrap64; omega
    simp only [relictref20_Number.l0]
    rw [if_pos (by omega), rat_any x, bindS, hw, if_pos (by omega), if_pos (by omega), hw2, hw3, hw4, hw5]
    exact ihh
/-- The two terms that Number tells. -/
theorem number_both (x y : S45) (hxy : y.f0 = x.f0 ∧ y.f2 = x.f2 ∧ y.f3 = x.f3) (hs : x.f2.size ≤ 1000000) (n : Int) : ∃ (P Q : S45) (b : Bool) (k : Nat), P.f4 = [] ∧ Q.f4 = [] ∧ P.f1.f1.length ≤ 2 ∧ Q.f1.f1.length ≤ 2 ∧
    match_Number.f k y.f0 y.f1.f0 y.f1.f1 y.f2 y.f3 y.f4 n = some (P.f0, P.f1.f0, P.f1.f1, P.f2, P.f3, [], Q.f0, Q.f1.f0, Q.f1.f1, Q.f2, Q.f3, [], b) ∧
    relictref20_Number.f k x.f0 x.f1.f0 x.f1.f1 x.f2 x.f3 x.f4 n = some (P.f0, P.f1.f0, P.f1.f1, P.f2, P.f3, [], Q.f0, Q.f1.f0, Q.f1.f1, Q.f2, Q.f3, [], b) := by
  have hat : atP y = atP x := by unfold atP; rw [hxy.2.1, hxy.2.2]
  by_cases hok : x.f0 = 8 ∧ 1 ≤ n ∧ n ≤ 7 ∧ n ≤ ((x.f2.size - atP x : Nat) : Int)
  · obtain ⟨h8, h1, h7, hl⟩ := hok
    obtain ⟨m, rfl⟩ : ∃ m : Nat, n = (m : Int) := ⟨n.toNat, by omega⟩
    have hle := atP_le x
    refine ⟨⟨1, ⟨false, limbs (valS x.f2 (atP x) m)⟩, ⟨#[]⟩, 0, []⟩, ⟨8, ⟨false, []⟩, x.f2, ((atP x + m : Nat) : Int), []⟩, true, m + 3, rfl, rfl, limbs_len _, by simp, ?_, ?_⟩
    · have q := number_yes y (by rw [hxy.1, h8]) (by rw [hxy.2.1]; exact hs) m (by omega) (by omega) (by rw [hat, hxy.2.1]; omega)
      rw [hat, hxy.2.1] at q
      exact match_Number.mono _ _ _ _ _ _ _ _ _ (by rw [hxy.2.1]; exact q)
    · unfold relictref20_Number.f
      rw [if_neg (by omega), if_neg (by omega), rleft_any x h8 hs, bindS, decide_eq_false (by omega)]
      simp only [relictref20_Number.j0]
      rw [if_neg (by decide)]
      exact rnumber_loop x hs m (by omega) (by omega) m 0 (m + 2) (by omega) (by omega)
  · refine ⟨⟨0, ⟨false, []⟩, ⟨#[]⟩, 0, []⟩, ⟨0, ⟨false, []⟩, ⟨#[]⟩, 0, []⟩, false, 1, rfl, rfl, by simp, by simp, ?_, ?_⟩
    · refine number_no y (by rw [hxy.2.1]; exact hs) n ?_ 0
      rw [hat, hxy.1, hxy.2.1]
      by_cases h8 : x.f0 = 8
      · by_cases h1 : n < 1
        · exact .inr (.inl h1)
        · by_cases h7 : n > 7
          · exact .inr (.inr (.inl h7))
          · exact .inr (.inr (.inr (by
              by_cases hl : n ≤ ((x.f2.size - atP x : Nat) : Int)
              · exact absurd ⟨h8, by omega, by omega, hl⟩ hok
              · omega)))
      · exact .inl h8
    · unfold relictref20_Number.f
      simp only [relictref20_Number.j0]
      by_cases h1 : n < 1
      · rw [if_pos h1, if_pos trivial]
      · by_cases h7 : n > 7
        · rw [if_neg h1, if_pos h7, if_pos trivial]
        · rw [if_neg h1, if_neg h7]
          by_cases h8 : x.f0 = 8
          · rw [rleft_any x h8 hs, bindS, if_pos (decide_eq_true (by
              by_cases hl : n ≤ ((x.f2.size - atP x : Nat) : Int)
              · exact absurd ⟨h8, by omega, by omega, hl⟩ hok
              · omega))]
          · rw [rleft_none x h8, bindS, if_pos (decide_eq_true (by omega))]
/-- The two that Bytes tells. -/
theorem bytes_both (x y : S45) (hxy : y.f0 = x.f0 ∧ y.f2 = x.f2 ∧ y.f3 = x.f3) (hs : x.f2.size ≤ 1000000) (n : Int) : ∃ (P Q : S45) (b : Bool) (k : Nat), P.f4 = [] ∧ Q.f4 = [] ∧ P.f1.f1.length ≤ 2 ∧ Q.f1.f1.length ≤ 2 ∧
    match_Bytes.f k y.f0 y.f1.f0 y.f1.f1 y.f2 y.f3 y.f4 n = some (P.f0, P.f1.f0, P.f1.f1, P.f2, P.f3, [], Q.f0, Q.f1.f0, Q.f1.f1, Q.f2, Q.f3, [], b) ∧
    relictref20_Bytes.f k x.f0 x.f1.f0 x.f1.f1 x.f2 x.f3 x.f4 n = some (P.f0, P.f1.f0, P.f1.f1, P.f2, P.f3, [], Q.f0, Q.f1.f0, Q.f1.f1, Q.f2, Q.f3, [], b) := by
  have hat : atP y = atP x := by unfold atP; rw [hxy.2.1, hxy.2.2]
  have ha := at_any y
  rw [hat] at ha
  by_cases hok : x.f0 = 8 ∧ 0 ≤ n ∧ n ≤ 400 ∧ n ≤ ((x.f2.size - atP x : Nat) : Int)
  · obtain ⟨h8, h1, h7, hl⟩ := hok
    obtain ⟨m, rfl⟩ : ∃ m : Nat, n = (m : Int) := ⟨n.toNat, by omega⟩
    have hle := atP_le x
    have hw : wrap64 ((atP x : Int) + (m : Int)) = ((atP x + m : Nat) : Int) := by unfold wrap64; omega
    refine ⟨⟨6, ⟨false, []⟩, x.f2.extract (atP x) (atP x + m), 0, []⟩, ⟨8, ⟨false, []⟩, x.f2, ((atP x + m : Nat) : Int), []⟩, true, 1, rfl, rfl, by simp, by simp, ?_, ?_⟩
    · have hb := behind_any y m (by omega) (by rw [hxy.2.1]; exact hs)
      rw [hat] at hb
      have hl' := left_any y (by rw [hxy.1, h8]) (by rw [hxy.2.1]; exact hs)
      rw [hat] at hl'
      unfold match_Bytes.f
      rw [if_neg (by omega), if_neg (by omega), hl', bindS, decide_eq_false (by rw [hxy.2.1]; omega)]
      simp only [match_Bytes.j0]
      rw [if_neg (by decide), ha, bindS, bindS, hw, if_pos (by omega), if_pos (by omega), if_pos (by rw [hxy.2.1]; omega), hb, bindS]
      simp only [Int.toNat_natCast, hxy.2.1]
    · unfold relictref20_Bytes.f
      rw [if_neg (by omega), if_neg (by omega), rleft_any x h8 hs, bindS, decide_eq_false (by omega)]
      simp only [relictref20_Bytes.j0]
      rw [if_neg (by decide), rat_any x, bindS, bindS, hw, if_pos (by omega), if_pos (by omega), if_pos (by omega), rbehind_any x m (by omega) hs, bindS]
      simp only [Int.toNat_natCast]
  · refine ⟨⟨0, ⟨false, []⟩, ⟨#[]⟩, 0, []⟩, ⟨0, ⟨false, []⟩, ⟨#[]⟩, 0, []⟩, false, 1, rfl, rfl, by simp, by simp, ?_, ?_⟩
    · unfold match_Bytes.f
      simp only [match_Bytes.j0]
      by_cases h1 : n < 0
      · rw [if_pos h1, if_pos trivial]
      · by_cases h7 : n > 400
        · rw [if_neg h1, if_pos h7, if_pos trivial]
        · rw [if_neg h1, if_neg h7]
          by_cases h8 : x.f0 = 8
          · have hl' := left_any y (by rw [hxy.1, h8]) (by rw [hxy.2.1]; exact hs)
            rw [hat, hxy.2.1] at hl'
            rw [hxy.2.1, hl', bindS, if_pos (decide_eq_true (by
              by_cases hl : n ≤ ((x.f2.size - atP x : Nat) : Int)
              · exact absurd ⟨h8, by omega, by omega, hl⟩ hok
              · omega))]
          · rw [left_none y (by rw [hxy.1]; exact h8), bindS, if_pos (decide_eq_true (by omega))]
    · unfold relictref20_Bytes.f
      simp only [relictref20_Bytes.j0]
      by_cases h1 : n < 0
      · rw [if_pos h1, if_pos trivial]
      · by_cases h7 : n > 400
        · rw [if_neg h1, if_pos h7, if_pos trivial]
        · rw [if_neg h1, if_neg h7]
          by_cases h8 : x.f0 = 8
          · rw [rleft_any x h8 hs, bindS, if_pos (decide_eq_true (by
              by_cases hl : n ≤ ((x.f2.size - atP x : Nat) : Int)
              · exact absurd ⟨h8, by omega, by omega, hl⟩ hok
              · omega))]
          · rw [rleft_none x h8, bindS, if_pos (decide_eq_true (by omega))]
/-- Start. -/
theorem start_both (x y : S45) (hxy : y.f0 = x.f0 ∧ y.f2 = x.f2 ∧ y.f3 = x.f3) : ∃ (P : S45) (b : Bool), P.f4 = [] ∧ P.f1.f1.length ≤ 2 ∧
    match_Start.f y.f0 y.f1.f0 y.f1.f1 y.f2 y.f3 y.f4 = some (P.f0, P.f1.f0, P.f1.f1, P.f2, P.f3, [], b) ∧ relictref20_Start.f x.f0 x.f1.f0 x.f1.f1 x.f2 x.f3 x.f4 = some (P.f0, P.f1.f0, P.f1.f1, P.f2, P.f3, [], b) := by
  unfold match_Start.f relictref20_Start.f
  rw [hxy.1, hxy.2.1]
  split
  · exact ⟨⟨8, ⟨false, []⟩, x.f2, 0, []⟩, true, rfl, by simp, rfl, rfl⟩
  · exact ⟨⟨0, ⟨false, []⟩, ⟨#[]⟩, 0, []⟩, false, rfl, by simp, rfl, rfl⟩
/-- Left, Rest. -/
theorem left_both (x : S45) (hs : x.f2.size ≤ 1000000) : ∃ v : Int, match_Left.f x.f0 x.f1.f0 x.f1.f1 x.f2 x.f3 x.f4 = some v ∧ relictref20_Left.f x.f0 x.f1.f0 x.f1.f1 x.f2 x.f3 x.f4 = some v := by
  by_cases h8 : x.f0 = 8
  · exact ⟨_, left_any x h8 hs, rleft_any x h8 hs⟩
  · exact ⟨_, left_none x h8, rleft_none x h8⟩
theorem rest_both (x : S45) : ∃ P : S45, P.f4 = [] ∧ P.f1.f1.length ≤ 2 ∧ match_Rest.f x.f0 x.f1.f0 x.f1.f1 x.f2 x.f3 x.f4 = some (P.f0, P.f1.f0, P.f1.f1, P.f2, P.f3, []) ∧ relictref20_Rest.f x.f0 x.f1.f0 x.f1.f1 x.f2 x.f3 x.f4 = some (P.f0, P.f1.f0, P.f1.f1, P.f2, P.f3, []) := by
  have hle := atP_le x
  unfold match_Rest.f relictref20_Rest.f
  by_cases h8 : x.f0 = 8
  · rw [if_pos h8, if_pos h8, at_any x, rat_any x]
    simp only [bindS]
    rw [if_pos (by omega), if_pos (by omega)]
    exact ⟨⟨6, ⟨false, []⟩, x.f2.extract (atP x) x.f2.size, 0, []⟩, rfl, by simp, by simp, by simp⟩
  · rw [if_neg h8, if_neg h8]
    exact ⟨⟨0, ⟨false, []⟩, ⟨#[]⟩, 0, []⟩, rfl, by simp, rfl, rfl⟩
end Go.Proofs.YthdmacdeefohkaaMAllP
