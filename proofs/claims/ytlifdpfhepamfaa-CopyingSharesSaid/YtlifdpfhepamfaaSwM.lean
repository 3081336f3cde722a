/- CopyingShares: the plain law, and the walk. -/
import Derived.Test.YtlifdpfhepamfaaRing
import Derived.Test.YtlifdpfhepamfaaRkN
import Derived.Test.YtlifdpfhepamfaaPHe22
import Derived.Test.YtlifdpfhepamfaaCnM
namespace Go.Proofs.YtlifdpfhepamfaaSh
open Go.RowKit Go.Maps Go.Proofs.YtlifdpfhepamfaaW.PrintWords Go.Proofs.YtlifdpfhepamfaaW.PrintLast Go.Proofs.YtlifdpfhepamfaaW.PrintMore Go.Proofs.YtlifdpfhepamfaaMem Go.Proofs.YtlifdpfhepamfaaLeaf Go.Proofs.YtlifdpfhepamfaaBits Go.Proofs.Ytlifdpfhepamfaa.PHe Go.Proofs.YtlifdpfhepamfaaRow Go.Proofs.YtlifdpfhepamfaaAr Go.Proofs.YtlifdpfhepamfaaHp Go.Proofs.YtlifdpfhepamfaaHn Go.Proofs.YtlifdpfhepamfaaHo Go.Proofs.YtlifdpfhepamfaaHt Go.Proofs.YtlifdpfhepamfaaHw Go.Proofs.YtlifdpfhepamfaaHu Go.Proofs.YtlifdpfhepamfaaWd Go.Proofs.YtlifdpfhepamfaaCp Go.Proofs.YtlifdpfhepamfaaCm Go.Proofs.YtlifdpfhepamfaaCk Go.Proofs.YtlifdpfhepamfaaCc Go.Proofs.YtlifdpfhepamfaaRing Go.Proofs.YtlifdpfhepamfaaRl Go.Proofs.YtlifdpfhepamfaaRk Go.Proofs.YtlifdpfhepamfaaHs Go.Proofs
set_option linter.unusedVariables false
set_option linter.unusedSimpArgs false
/-- The numbers from one on, up to another. -/
def vs (j c : Nat) : List Int := (List.range' j (c - j)).map (fun t : Nat => (t : Int))
theorem vs_len (j c : Nat) : (vs j c).length = c - j := by simp [vs]
theorem vs_nil (c : Nat) : vs c c = [] := by simp [vs]
theorem vs_cons {j c : Nat} (h : j < c) : vs j c = (j : Int) :: vs (j + 1) c := by
  unfold vs
  obtain ⟨d, hd⟩ : ∃ d, c - j = d + 1 := ⟨c - j - 1, by omega⟩
  rw [hd, show c - (j + 1) = d by omega, List.range'_succ]
  rfl
theorem vs_snoc (c : Nat) : vs 0 (c + 1) = vs 0 c ++ [(c : Int)] := by
  unfold vs
  rw [Nat.sub_zero, Nat.sub_zero, List.range'_1_concat, List.map_append]
  simp
/-- What leads to a cell of the list, from its last one on. -/
def lead (p : Nat) : Int := if p = 0 then 11 else px (2 * (p - 1))
theorem px_ptr (t : Nat) : ptrW 1 t = px t := by unfold ptrW px; omega
theorem small_nat {j : Nat} (h : j ≤ 1000) : smallN true (decide ((j : Int) < 0)) (absL (j : Int)) = true := by
  unfold smallN
  rw [intN_eq (j : Int) (by omega) (by omega)]
  simp
  omega
theorem put_vs (c : Nat) (hc : c ≤ 1000) : ∀ (d j : Nat), j + d = c → (putLw (vs j c) []).length = 2 * d ∧ putWw (vs j c) [] = lead d ∧ (∀ p, p < d → (putLw (vs j c) []).getD (2 * p) 0 = 16 * ((c - 1 - p : Nat) : Int) + 3) ∧ (∀ p, p < d → (putLw (vs j c) []).getD (2 * p + 1) 0 = lead p) := by
  intro d
  induction d with
  | zero =>
    intro j hj
    obtain rfl : j = c := by omega
    rw [vs_nil]
    exact ⟨rfl, rfl, fun p hp => by omega, fun p hp => by omega⟩
  | succ d ih =>
    intro j hj
    obtain ⟨h1, h2, h3, h4⟩ := ih (j + 1) (by omega)
    have hs := small_nat (j := j) (by omega)
    have hn : numLw (j : Int) [] = [] := by unfold numLw; rw [if_pos hs]
    have hw : numWw (j : Int) [] = 16 * (j : Int) + 3 := by
      unfold numWw
      rw [if_pos hs, intN_eq (j : Int) (by omega) (by omega)]
      unfold smallW
      omega
    rw [vs_cons (show j < c by omega)]
    have e : putLw ((j : Int) :: vs (j + 1) c) [] = putLw (vs (j + 1) c) [] ++ [16 * (j : Int) + 3, lead d] := by rw [putLw_cons, hn, hw, h2]
    have hg : ∀ i, (putLw (vs (j + 1) c) [] ++ [16 * (j : Int) + 3, lead d]).getD i 0 = if i < 2 * d then (putLw (vs (j + 1) c) []).getD i 0 else [16 * (j : Int) + 3, lead d].getD (i - 2 * d) 0 := by
      intro i
      rw [List.getD_eq_getElem?_getD, List.getElem?_append, h1]
      split <;> simp [List.getD_eq_getElem?_getD]
    refine ⟨by rw [e, List.length_append, h1]; rfl, ?_, fun p hp => ?_, fun p hp => ?_⟩
    · rw [putWw_cons, hn, h1, px_ptr]
      unfold lead
      rw [if_neg (by omega)]
      rfl
    · rw [e, hg]
      by_cases h : p < d
      · rw [if_pos (by omega)]; exact h3 p h
      · obtain rfl : p = d := by omega
        rw [if_neg (by omega), Nat.sub_self]
        show 16 * (j : Int) + 3 = _
        omega
    · rw [e, hg]
      by_cases h : p < d
      · rw [if_pos (by omega)]; exact h4 p h
      · obtain rfl : p = d := by omega
        rw [if_neg (by omega), show 2 * p + 1 - 2 * p = 1 by omega]
        rfl
/-- The list, and so many cells that lead to it. -/
structure Sp (l : List Int) (c m : Nat) : Prop where
  len : l.length = 2 * c + 2 * m
  ta : ∀ p, p < c → l.getD (2 * p) 0 = 16 * ((c - 1 - p : Nat) : Int) + 3
  tb : ∀ p, p < c → l.getD (2 * p + 1) 0 = lead p
  ra : ∀ i, i < m → l.getD (2 * c + 2 * i) 0 = 16 * (i : Int) + 3
  rb : ∀ i, i < m → l.getD (2 * c + 2 * i + 1) 0 = lead c
theorem Sp.start (c : Nat) (hc : c ≤ 1000) : Sp (putLw (vs 0 c) []) c 0 ∧ putWw (vs 0 c) [] = lead c := by
  obtain ⟨h1, h2, h3, h4⟩ := put_vs c hc c 0 (by omega)
  exact ⟨⟨by omega, h3, h4, fun i hi => by omega, fun i hi => by omega⟩, h2⟩
theorem Sp.step {l : List Int} {c m : Nat} (h : Sp l c m) : Sp (((l ++ [0, 0]).set (2 * c + 2 * m) (16 * (m : Int) + 3)).set (2 * c + 2 * m + 1) (lead c)) c (m + 1) := by
  have hl := h.len
  have e : ((l ++ [0, 0]).set (2 * c + 2 * m) (16 * (m : Int) + 3)).set (2 * c + 2 * m + 1) (lead c) = l ++ [16 * (m : Int) + 3, lead c] := by
    rw [← hl]
    simp [List.set_append]
  rw [e]
  have hg : ∀ i, (l ++ [16 * (m : Int) + 3, lead c]).getD i 0 = if i < 2 * c + 2 * m then l.getD i 0 else [16 * (m : Int) + 3, lead c].getD (i - (2 * c + 2 * m)) 0 := by
    intro i
    rw [List.getD_eq_getElem?_getD, List.getElem?_append, hl]
    split <;> simp [List.getD_eq_getElem?_getD]
  refine ⟨by rw [List.length_append, hl]; simp only [List.length_cons, List.length_nil]; omega, fun p hp => ?_, fun p hp => ?_, fun i hi => ?_, fun i hi => ?_⟩
  · rw [hg, if_pos (by omega)]; exact h.ta p hp
  · rw [hg, if_pos (by omega)]; exact h.tb p hp
  · rw [hg]
    by_cases q : i < m
    · rw [if_pos (by omega)]; exact h.ra i q
    · obtain rfl : i = m := by omega
      rw [if_neg (by omega), Nat.sub_self]
      rfl
  · rw [hg]
    by_cases q : i < m
    · rw [if_pos (by omega)]; exact h.rb i q
    · obtain rfl : i = m := by omega
      rw [if_neg (by omega), show 2 * c + 2 * i + 1 - (2 * c + 2 * i) = 1 by omega]
      rfl
/-- Which of the list's cells a cell leads to. -/
def J (m s : Nat) : Nat := if s < m then 0 else s - m + 1
/-- The second word of a cell in its new place. -/
def fw (c m s : Nat) : Int := if J m s = c then 11 else px (2 * (m + J m s))
structure Iv (l : List Int) (c m s q : Nat) (to_ : List Int) (now : List (Int × Nat)) : Prop where
  len : to_.length = 2 * (m + q)
  qc : q ≤ c
  wa : ∀ t, t < m + q → to_.getD (2 * t) 0 = 16 * ((if t < m then t else t - m : Nat) : Int) + 3
  wb : ∀ t, t < m + q → to_.getD (2 * t + 1) 0 = if t < s then fw c m t else lead (c - J m t)
  hit : ∀ j, j < q → lk now ((2 * (c - 1 - j) : Nat) : Int) = some (2 * (m + j))
  miss : ∀ j, q ≤ j → j < c → lk now ((2 * (c - 1 - j) : Nat) : Int) = none
  pro : s = 0 ∨ c ≤ q ∨ J m (s - 1) < q
structure Fin (c m : Nat) (to_ : List Int) : Prop where
  len : to_.length = 2 * (m + c)
  wa : ∀ t, t < m + c → to_.getD (2 * t) 0 = 16 * ((if t < m then t else t - m : Nat) : Int) + 3
  wb : ∀ t, t < m + c → to_.getD (2 * t + 1) 0 = fw c m t
section
variable {l : List Int} {c m : Nat}
theorem roots_sh (H : Sp l c m) : ∀ (d i : Nat) (o to_ : List Int) (now : List (Int × Nat)), i + d = m → to_.length = 2 * i → (∀ t, t < i → to_.getD (2 * t) 0 = 16 * (t : Int) + 3) → (∀ t, t < i → to_.getD (2 * t + 1) 0 = lead c) → (∀ t, t < 2 * c → lk now (t : Int) = none) → (∀ t, i ≤ t → t < m → lk now ((2 * c + 2 * t : Nat) : Int) = none) → o = (List.range i).map (fun t => px (2 * t)) →
    ∃ to0 now0, rootsF l (2 * m + 2 * c) ((List.range' i d).map (fun t => px (2 * c + 2 * t))) o to_ now = some ((List.range m).map (fun t => px (2 * t)), to0, now0) ∧ Iv l c m 0 0 to0 now0 := by
  intro d
  induction d with
  | zero =>
    intro i o to_ now hi h1 h2 h3 h4 h5 h6
    obtain rfl : i = m := by omega
    refine ⟨to_, now, by rw [h6]; rfl, ⟨by omega, by omega, fun t ht => ?_, fun t ht => ?_, fun j hj => by omega, fun j _ hj => h4 _ (by omega), .inl rfl⟩⟩
    · rw [if_pos (by omega)]; exact h2 t (by omega)
    · rw [if_neg (by omega), h3 t (by omega)]
      unfold J
      rw [if_pos (by omega)]
      rfl
  | succ d ih =>
    intro i o to_ now hi h1 h2 h3 h4 h5 h6
    have g3 : l.getD (2 * c + 2 * i) 0 % 4 = 3 := by rw [H.ra i (by omega)]; omega
    have gl : 2 * c + 2 * i + 2 ≤ l.length := by rw [H.len]; omega
    have hm := move_miss (l := l) (n2 := 2 * m + 2 * c) (to_ := to_) (now := now) g3 gl (h5 i (by omega) (by omega)) (by omega)
    rw [H.ra i (by omega), H.rb i (by omega), h1] at hm
    rw [List.range'_succ]
    simp only [List.map_cons, rootsF, hm]
    rw [if_pos trivial]
    have hg : ∀ t, (to_ ++ [16 * (i : Int) + 3, lead c]).getD t 0 = if t < 2 * i then to_.getD t 0 else [16 * (i : Int) + 3, lead c].getD (t - 2 * i) 0 := by
      intro t
      rw [List.getD_eq_getElem?_getD, List.getElem?_append, h1]
      split <;> simp [List.getD_eq_getElem?_getD]
    refine ih (i + 1) _ _ _ (by omega) (by rw [List.length_append, h1]; simp only [List.length_cons, List.length_nil]; omega) (fun t ht => ?_) (fun t ht => ?_) (fun t ht => ?_) (fun t ht hm2 => ?_) ?_
    · rw [hg]
      by_cases q : t < i
      · rw [if_pos (by omega)]; exact h2 t q
      · obtain rfl : t = i := by omega
        rw [if_neg (by omega), Nat.sub_self]; rfl
    · rw [hg]
      by_cases q : t < i
      · rw [if_pos (by omega)]; exact h3 t q
      · obtain rfl : t = i := by omega
        rw [if_neg (by omega), show 2 * t + 1 - 2 * t = 1 by omega]; rfl
    · rw [lk_cons, if_neg (by omega)]; exact h4 t ht
    · rw [lk_cons, if_neg (by omega)]; exact h5 t (by omega) hm2
    · rw [h6, List.range_succ, List.map_append]; rfl
theorem sh_start (H : Sp l c m) : ∃ to0 now0, rootsF l (2 * m + 2 * c) ((List.range m).map (fun t => px (2 * c + 2 * t))) [] [] [] = some ((List.range m).map (fun t => px (2 * t)), to0, now0) ∧ Iv l c m 0 0 to0 now0 := by
  have := roots_sh H m 0 [] [] [] (by omega) rfl (fun t ht => by omega) (fun t ht => by omega) (fun t ht => rfl) (fun t _ _ => rfl) rfl
  rw [← List.range_eq_range'] at this
  exact this
theorem sh_step (H : Sp l c m) {s q : Nat} {to_ : List Int} {now : List (Int × Nat)} (I : Iv l c m s q to_ now) (hs : s < m + q) :
    ∃ q' to1 now1, innerF l (2 * m + 2 * c) 2 ((2 * s : Nat) : Int) to_ now = some (to1, now1) ∧ to1.getD (2 * s) 0 % 4 = 3 ∧ 2 * s + 2 ≤ to1.length ∧ Iv l c m (s + 1) q' to1 now1 := by
  have hlen := I.len
  have hqc := I.qc
  have hJq : J m s ≤ q := by unfold J; split <;> omega
  have hc := I.wa s hs
  have h3 : to_.getD (2 * s) 0 % 4 = 3 := by rw [hc]; omega
  have m0 := move_imm l (2 * m + 2 * c) to_ now _ h3
  have w0 := word_nat (l := to_) (t := 2 * s) (by omega)
  have s0 := set_same (l := to_) (t := 2 * s) (by omega)
  have w1 := word_nat (l := to_) (t := 2 * s + 1) (by omega)
  have hwb := I.wb s hs
  rw [if_neg (by omega)] at hwb
  rw [hwb] at w1
  have ep : ((2 * s : Nat) : Int) + 1 = ((2 * s + 1 : Nat) : Int) := by omega
  have hsame : ∀ v : Int, to_.length = 2 * (m + q) → ∀ t, (to_.set (2 * s + 1) v).getD t 0 = if t = 2 * s + 1 then v else to_.getD t 0 := fun v _ t => getD_set to_ v (2 * s + 1) t (by omega)
  have hset : ∀ (v : Int), setA to_ ((2 * s + 1 : Nat) : Int) v = to_.set (2 * s + 1) v := fun v => by unfold setA; rw [if_pos (by omega), Int.toNat_natCast]
  -- the second word is another, nothing is moved
  have stay : ∀ v : Int, v = fw c m s → (c ≤ q ∨ J m s < q) → Iv l c m (s + 1) q (to_.set (2 * s + 1) v) now ∧ (to_.set (2 * s + 1) v).getD (2 * s) 0 % 4 = 3 ∧ 2 * s + 2 ≤ (to_.set (2 * s + 1) v).length := by
    intro v hv hp
    refine ⟨⟨by simp; omega, hqc, fun t ht => ?_, fun t ht => ?_, I.hit, I.miss, .inr (by rw [Nat.add_sub_cancel]; exact hp)⟩, by rw [hsame _ hlen, if_neg (by omega)]; exact h3, by simp; omega⟩
    · rw [hsame _ hlen, if_neg (by omega)]; exact I.wa t ht
    · rw [hsame _ hlen]
      by_cases e : t = s
      · subst e; rw [if_pos rfl, if_pos (by omega), hv]
      · rw [if_neg (by omega), I.wb t ht]
        by_cases e2 : t < s
        · rw [if_pos e2, if_pos (by omega)]
        · rw [if_neg e2, if_neg (by omega)]
  by_cases hJ : J m s = c
  · have hl : lead (c - J m s) = 11 := by rw [hJ, Nat.sub_self]; rfl
    rw [hl] at w1
    have m1 := move_imm l (2 * m + 2 * c) to_ now 11 (by omega)
    obtain ⟨a, b, d⟩ := stay 11 (by unfold fw; rw [if_pos hJ]) (.inl (by omega))
    refine ⟨q, _, now, ?_, b, d, a⟩
    simp only [innerF, w0, m0, s0, ep, w1, m1, hset]
    rfl
  · obtain ⟨j, hj⟩ : ∃ j, J m s = j := ⟨_, rfl⟩
    rw [hj] at hJ hJq w1
    have hl : lead (c - j) = px (2 * (c - 1 - j)) := by unfold lead; rw [if_neg (by omega)]; congr 2; omega
    rw [hl] at w1
    have t3 : l.getD (2 * (c - 1 - j)) 0 % 4 = 3 := by rw [H.ta _ (by omega)]; omega
    have tl : 2 * (c - 1 - j) + 2 ≤ l.length := by rw [H.len]; omega
    by_cases hlt : j < q
    · have m1 := move_hit (l := l) (n2 := 2 * m + 2 * c) (to_ := to_) (now := now) t3 tl (I.hit j hlt)
      obtain ⟨a, b, d⟩ := stay (px (2 * (m + j))) (by unfold fw; rw [hj, if_neg hJ]) (.inr (by rw [hj]; exact hlt))
      refine ⟨q, _, now, ?_, b, d, a⟩
      simp only [innerF, w0, m0, s0, ep, w1, m1, hset]
      rfl
    · obtain rfl : j = q := by omega
      have m1 := move_miss (l := l) (n2 := 2 * m + 2 * c) (to_ := to_) (now := now) t3 tl (I.miss j (Nat.le_refl _) (by omega)) (by omega)
      rw [H.ta _ (by omega), H.tb _ (by omega), show c - 1 - (c - 1 - j) = j by omega] at m1
      refine ⟨j + 1, setA (to_ ++ [16 * (j : Int) + 3, lead (c - 1 - j)]) ((2 * s + 1 : Nat) : Int) (px to_.length), (((2 * (c - 1 - j) : Nat) : Int), to_.length) :: now, ?_, ?_⟩
      · simp only [innerF, w0, m0, s0, ep, w1, m1]
        rfl
      · have hset2 : setA (to_ ++ [16 * (j : Int) + 3, lead (c - 1 - j)]) ((2 * s + 1 : Nat) : Int) (px to_.length) = (to_ ++ [16 * (j : Int) + 3, lead (c - 1 - j)]).set (2 * s + 1) (px to_.length) := by
          unfold setA
          rw [if_pos (by simp; omega), Int.toNat_natCast]
        rw [hset2]
        have hg := fun t => getD_upd to_ (16 * (j : Int) + 3) (lead (c - 1 - j)) (px to_.length) (2 * s + 1) t (by omega)
        refine ⟨by rw [hg, if_neg (by omega), if_pos (by omega)]; exact h3, by simp; omega, ?_⟩
        refine ⟨by simp; omega, by omega, fun t ht => ?_, fun t ht => ?_, fun i hi => ?_, fun i hi hic => ?_, .inr (.inr (by rw [Nat.add_sub_cancel, hj]; omega))⟩
        · rw [hg, if_neg (by omega)]
          by_cases e : t < m + j
          · rw [if_pos (by omega)]; exact I.wa t e
          · obtain rfl : t = m + j := by omega
            rw [if_neg (by omega), if_pos (by omega), if_neg (by omega)]
            omega
        · rw [hg]
          by_cases e : t < m + j
          · by_cases e1 : t = s
            · subst e1
              rw [if_pos rfl, if_pos (by omega), hlen]
              unfold fw
              rw [hj, if_neg hJ]
            · rw [if_neg (by omega), if_pos (by omega), I.wb t e]
              by_cases e2 : t < s
              · rw [if_pos e2, if_pos (by omega)]
              · rw [if_neg e2, if_neg (by omega)]
          · obtain rfl : t = m + j := by omega
            rw [if_neg (by omega), if_neg (by omega), if_neg (by omega), if_pos (by omega), if_neg (by omega)]
            unfold J
            rw [if_neg (by omega)]
            congr 1
            omega
        · rw [lk_cons]
          by_cases e : i = j
          · subst e; rw [if_pos rfl, hlen]
          · rw [if_neg (by omega)]; exact I.hit i (by omega)
        · rw [lk_cons, if_neg (by omega)]
          exact I.miss i (by omega) hic
theorem sh_scan (H : Sp l c m) (hm : 0 < m) (hb : c ≤ 1000 ∧ m ≤ 1000) : ∀ (d s q : Nat) (to_ : List Int) (now : List (Int × Nat)), s + d = m + c → s ≤ m + q → Iv l c m s q to_ now → ∃ to2 now2, scanF l (2 * m + 2 * c) (d + 1) ((2 * s : Nat) : Int) to_ now = some (to2, now2) ∧ Fin c m to2 := by
  intro d
  induction d with
  | zero =>
    intro s q to_ now hsd hsq I
    have hq := I.qc
    obtain rfl : q = c := by omega
    refine ⟨to_, now, ?_, ⟨I.len, I.wa, fun t ht => ?_⟩⟩
    · rw [scanF, if_pos (by rw [I.len]; omega)]
    · rw [I.wb t ht, if_pos (by omega)]
  | succ d ih =>
    intro s q to_ now hsd hsq I
    have hq := I.qc
    have hl := I.len
    by_cases hs : s < m + q
    · obtain ⟨q', to1, now1, h1, h2, h3, h4⟩ := sh_step H I hs
      have hl1 := h4.len
      obtain ⟨to2, now2, g1, g2⟩ := ih (s + 1) q' to1 now1 (by omega) (by omega) h4
      refine ⟨to2, now2, ?_, g2⟩
      have hi := inner_cell (l := to_) (t := 2 * s) (by rw [I.wa s hs]; omega) (by omega)
      have hx := ext_cell h2 h3
      rw [scanF, if_neg (by omega), hi, if_pos (by omega), show ((0 : Int), (2 : Int)).2.toNat = 2 from rfl, show ((2 * s : Nat) : Int) + ((0 : Int), (2 : Int)).1 = ((2 * s : Nat) : Int) by simp, h1]
      simp only [Option.bind_some, hx]
      rw [show ((2 * s : Nat) : Int) + 2 = ((2 * (s + 1) : Nat) : Int) by omega]
      exact g1
    · exfalso
      obtain rfl : s = m + q := by omega
      have hp := I.pro
      have hJ : J m (m + q - 1) = q := by unfold J; split <;> omega
      rcases hp with h | h | h
      · omega
      · omega
      · omega
/-- What is read in the new place. -/
theorem fin_reads {B h g gw mm : Nat} {u : Value} {to_ : List Int} {n : Nat} {ns : List ByteArray} (F : Fin c m to_) (hb : c ≤ 100 ∧ m ≤ 100) :
    ∀ (d j : Nat), j + d = c → TlR B h g gw mm u to_ n ns (if j = c then 11 else px (2 * (m + j))) (vs j c) := by
  have hl := F.len
  intro d
  induction d with
  | zero =>
    intro j hj
    obtain rfl : j = c := by omega
    rw [if_pos rfl, vs_nil]
    exact .inl ⟨rfl, rfl⟩
  | succ d ih =>
    intro j hj
    rw [if_neg (by omega), vs_cons (by omega)]
    have hT := ih (j + 1) (by omega)
    have g0 := F.wa (m + j) (by omega)
    have g1 := F.wb (m + j) (by omega)
    rw [if_neg (by omega), Nat.add_sub_cancel_left] at g0
    have hJ : J m (m + j) = j + 1 := by unfold J; rw [if_neg (by omega)]; omega
    unfold fw at g1
    rw [hJ] at g1
    rw [← g1] at hT
    have hc := cell_mk (L := to_) (a := 2 * (m + j)) (by omega) (by omega) g0 rfl
    have hg := good_mk (L := to_) (a := 2 * (m + j)) (by omega) (by omega) (by rw [g0]; omega)
    rw [px_ptr] at hc hg
    have sj : smallW (j : Int) = 16 * (j : Int) + 3 := by unfold smallW; omega
    exact tl_cons hc (by rw [← sj]; exact rds_small B h g gw mm u to_ n ns j (by omega) (by omega)) hT (by unfold px; omega) hg
theorem root_reads {B h g gw mm : Nat} {u : Value} {to_ : List Int} {n : Nat} {ns : List ByteArray} (F : Fin c m to_) (hb : c ≤ 100 ∧ m ≤ 100) {i : Nat} (hi : i < m) :
    Rds B h g gw mm u to_ n ns (px (2 * i)) (LI ((i : Int) :: vs 0 c)) (1 + 2 * (c + 1)) := by
  have hl := F.len
  have hT := fin_reads (B := B) (h := h) (g := g) (gw := gw) (mm := mm) (u := u) (n := n) (ns := ns) F hb c 0 (by omega)
  have g0 := F.wa i (by omega)
  have g1 := F.wb i (by omega)
  rw [if_pos hi] at g0
  have hJ : J m i = 0 := by unfold J; rw [if_pos hi]
  unfold fw at g1
  rw [hJ] at g1
  rw [← g1] at hT
  have hc := cell_mk (L := to_) (a := 2 * i) (by omega) (by omega) g0 rfl
  have hg := good_mk (L := to_) (a := 2 * i) (by omega) (by omega) (by rw [g0]; omega)
  rw [px_ptr] at hc hg
  have sj : smallW (i : Int) = 16 * (i : Int) + 3 := by unfold smallW; omega
  have := rds_tl (tl_cons hc (by rw [← sj]; exact rds_small B h g gw mm u to_ n ns i (by omega) (by omega)) hT (by unfold px; omega) hg)
  rw [List.length_cons, vs_len, Nat.sub_zero] at this
  exact this
end
end Go.Proofs.YtlifdpfhepamfaaSh
namespace Go.Proofs.YtlifdpfhepamfaaHy
open Go.RowKit Go.Maps Go.Proofs.YtlifdpfhepamfaaW.PrintWords Go.Proofs.YtlifdpfhepamfaaW.PrintLast Go.Proofs.YtlifdpfhepamfaaW.PrintMore Go.Proofs.YtlifdpfhepamfaaMem Go.Proofs.YtlifdpfhepamfaaLeaf Go.Proofs.YtlifdpfhepamfaaBits Go.Proofs.Ytlifdpfhepamfaa.PHe Go.Proofs.YtlifdpfhepamfaaRow Go.Proofs.YtlifdpfhepamfaaAr Go.Proofs.YtlifdpfhepamfaaHp Go.Proofs.YtlifdpfhepamfaaHn Go.Proofs.YtlifdpfhepamfaaHo Go.Proofs.YtlifdpfhepamfaaHt Go.Proofs.YtlifdpfhepamfaaWd Go.Proofs.YtlifdpfhepamfaaRl Go.Proofs.YtlifdpfhepamfaaRk Go.Proofs
open Go.Proofs.YtlifdpfhepamfaaTl (kT six consT consL m_slices)
set_option linter.unusedVariables false
set_option linter.unusedSimpArgs false
section
variable {B : Nat} {w : World} {h g gw m : Nat} {v : Value} {l : List Int} {n : Nat} {ns : List ByteArray}
/-- Two words more. -/
theorem halloc2 (H : Hp B w h g gw m v l n ns) (hl : l.length + 2 ≤ n) {k : Int} (hk : k = (l.length : Int)) :
    Calls Try.prog 45 #[.pointer (some ⟨g, 0, none⟩), .int .i64 2] w fun e w' => e = .returned (.tuple #[.int .i64 k, .bool true]) ∧ Hp B w' h g gw m v (l ++ [0, 0]) n ns ∧ Mods (SH h g gw m v) w w' := by
  subst hk
  have hok : okA l n 2 = true := by unfold okA; simp; omega
  refine (alloc_calls w g gw n l 2 H.ar).mono ?_
  rintro e w' ⟨rfl, ha, hm⟩
  have hr : resA l n 2 = l ++ [0, 0] := by unfold resA; rw [hok]; rfl
  have hat : atA l n 2 = l.length := by unfold atA; rw [hok]; rfl
  rw [hr] at ha
  rw [hat, hok]
  exact ⟨rfl, Go.Proofs.YtlifdpfhepamfaaHo.arena H ha (hm.mono (S' := fun i => i = g ∨ i = gw) (fun i hi => .inl hi))⟩
/-- A word is set. -/
theorem hset (H : Hp B w h g gw m v l n ns) {t : Nat} (ht : t < l.length) {x : Int} (x0 : 0 ≤ x) (x1 : x < 18446744073709551616) {k : Int} (hk : k = (t : Int)) :
    Calls Try.prog 46 #[.pointer (some ⟨g, 0, none⟩), .int .i64 k, .int .u64 x] w fun e w' => e = .returned (.tuple #[]) ∧ Hp B w' h g gw m v (l.set t x) n ns ∧ Mods (SH h g gw m v) w w' := by
  subst hk
  refine (set_calls w g gw n l t x H.ar x0 x1).mono ?_
  rintro e w' ⟨rfl, ha, hm⟩
  have hr : setA l (t : Int) x = l.set t x := by unfold setA; rw [if_pos (by omega), Int.toNat_natCast]
  rw [hr] at ha
  exact ⟨rfl, Go.Proofs.YtlifdpfhepamfaaHo.arena H ha (hm.mono (S' := fun i => i = g ∨ i = gw) (fun i hi => .inr hi))⟩
end
theorem tf_of_M {W : World} {base : Nat} {ok : Nat → Prop} {t : Go.Proofs.YtlifdpfhepamfaaTl.TT} {v2 v5 : Value} (h : kT.M W base ok t (six t v2 v5)) : ∃ A2 c2 A5 c5, v2 = .slice A2 t.f1.f1.length c2 ∧ v5 = .slice A5 t.f4.length c5 ∧ TF W ok t A2 c2 A5 c5 := by
  obtain ⟨q2, q5, he, h2, h5⟩ := k43_openM h
  have e2 : v2 = q2 := Option.some.inj (congrArg (fun l : List Value => l[2]?) he)
  have e5 : v5 = q5 := Option.some.inj (congrArg (fun l : List Value => l[5]?) he)
  subst e2 e5
  obtain ⟨A, c, h2', hc, _⟩ := Kd.R_reads h2
  obtain ⟨A', c', h5', hc', _⟩ := Kd.R_reads h5
  subst h2' h5'
  exact ⟨A, c, A', c', rfl, rfl, Kd.R_F h2, hc, Kd.R_F h5, hc'⟩
/-- A term is read now. -/
def TN (W : World) (x : Go.Proofs.YtlifdpfhepamfaaTl.TT) (A2 : Option Addr) (c2 : Nat) (A5 : Option Addr) (c5 : Nat) : Prop :=
  Kd.C (Kd.int .u32) W A2 x.f1.f1.length x.f1.f1 ∧ x.f1.f1.length ≤ c2 ∧ Kd.C kT W A5 x.f4.length x.f4 ∧ x.f4.length ≤ c5
theorem tn_of {W : World} {ok : Nat → Prop} {x : Go.Proofs.YtlifdpfhepamfaaTl.TT} {A2 : Option Addr} {c2 : Nat} {A5 : Option Addr} {c5 : Nat} (h : TF W ok x A2 c2 A5 c5) : TN W x A2 c2 A5 c5 :=
  ⟨h.1 W (fun _ _ _ => rfl), h.2.1, h.2.2.1 W (fun _ _ _ => rfl), h.2.2.2⟩
/-! ### how many nodes a list of numbers has -/
def NodesF (k : Nat) (x : Go.Proofs.YtlifdpfhepamfaaTl.TT) : Option Int := relictref03_Nodes.f k x.f0 x.f1.f0 x.f1.f1 x.f2 x.f3 x.f4
theorem nodes_leaf (x : Go.Proofs.YtlifdpfhepamfaaTl.TT) (hx : x.f4 = []) (k : Nat) : NodesF (k + 2) x = some 1 := by
  unfold NodesF
  rw [hx, relictref03_Nodes.f, relictref03_Nodes.l0, if_neg (by simp)]
theorem nodes_LI : ∀ (xs : List Int) (k : Nat), 3 + 3 * xs.length ≤ k → xs.length ≤ 1000 → NodesF k (LI xs) = some (2 * (xs.length : Int) + 1)
  | [], k, hk, _ => by
    obtain ⟨k, rfl⟩ : ∃ k', k = k' + 2 := ⟨k - 2, by simp at hk; omega⟩
    exact nodes_leaf (LI []) rfl k
  | v :: xs, k, hk, hl => by
    simp only [List.length_cons] at hk hl
    obtain ⟨k, rfl⟩ : ∃ k', k = k' + 4 := ⟨k - 4, by omega⟩
    show relictref03_Nodes.f (k + 4) 4 false [] ⟨#[]⟩ 0 [IN v, LI xs] = _
    have hl2 : (([IN v, LI xs] : List Go.Proofs.YtlifdpfhepamfaaTl.TT).length : Int) = 2 := rfl
    have e0 : rd_T43 [IN v, LI xs] 0 = IN v := rfl
    have e1 : rd_T43 [IN v, LI xs] 1 = LI xs := rfl
    have h0 := nodes_leaf (IN v) rfl k
    have h1 := nodes_LI xs (k + 1) (by omega) (by omega)
    unfold NodesF at h0 h1
    rw [relictref03_Nodes.f, relictref03_Nodes.l0, if_pos (by rw [hl2]; decide), if_pos (by decide), e0, h0]
    simp only [Option.bind_some]
    rw [show wrap64 (1 + 1) = 2 by unfold wrap64; omega, show wrap64 (0 + 1) = 1 by unfold wrap64; omega, relictref03_Nodes.l0, if_pos (by rw [hl2]; decide), if_pos (by decide), e1, h1]
    simp only [Option.bind_some]
    rw [show wrap64 (2 + (2 * (xs.length : Int) + 1)) = 2 * (xs.length : Int) + 3 by unfold wrap64; omega, show wrap64 (1 + 1) = 2 by unfold wrap64; omega, relictref03_Nodes.l0, if_neg (by rw [hl2]; decide)]
    simp only [List.length_cons]
    congr 1
    try omega
theorem nodes_tn {W : World} {x : Go.Proofs.YtlifdpfhepamfaaTl.TT} {A2 A5 : Option Addr} {a2 a5 K : Nat} {r : Int} (hx : TN W x A2 a2 A5 a5) (hs : NodesF K x = some r) :
    Calls Try.prog 54 #[.agg (cellsT x A2 a2 A5 a5)] W fun e w' => e = .returned (.int .i64 r) ∧ Below W.heap.size W w' :=
  relictref03_Nodes.calls K x.f0 x.f1.f0 A2 a2 x.f1.f1 x.f2 x.f3 A5 a5 x.f4 r W hx.1 hx.2.1 hx.2.2.1 hx.2.2.2 hs
end Go.Proofs.YtlifdpfhepamfaaHy
namespace Go.Proofs.YtlifdpfhepamfaaSw
open Go.RowKit Go.Maps Go.Proofs.YtlifdpfhepamfaaW.PrintWords Go.Proofs.YtlifdpfhepamfaaW.PrintLast Go.Proofs.YtlifdpfhepamfaaW.PrintMore Go.Proofs.YtlifdpfhepamfaaMem Go.Proofs.YtlifdpfhepamfaaLeaf Go.Proofs.YtlifdpfhepamfaaBits Go.Proofs.Ytlifdpfhepamfaa.PHe Go.Proofs.YtlifdpfhepamfaaRow Go.Proofs.YtlifdpfhepamfaaAr Go.Proofs.YtlifdpfhepamfaaHp Go.Proofs.YtlifdpfhepamfaaHo Go.Proofs.YtlifdpfhepamfaaHt Go.Proofs.YtlifdpfhepamfaaHw Go.Proofs.YtlifdpfhepamfaaHu Go.Proofs.YtlifdpfhepamfaaHv Go.Proofs.YtlifdpfhepamfaaPr Go.Proofs.YtlifdpfhepamfaaWd Go.Proofs.YtlifdpfhepamfaaCp Go.Proofs.YtlifdpfhepamfaaCm Go.Proofs.YtlifdpfhepamfaaCk Go.Proofs.YtlifdpfhepamfaaCc Go.Proofs.YtlifdpfhepamfaaRl Go.Proofs.YtlifdpfhepamfaaRk Go.Proofs.YtlifdpfhepamfaaHy Go.Proofs.YtlifdpfhepamfaaRing Go.Proofs.YtlifdpfhepamfaaSh Go.Proofs
open Go.Proofs.YtlifdpfhepamfaaTl (kT six consT consL m_slices)
set_option linter.unusedVariables false
set_option linter.unusedSimpArgs false
theorem sz4000 : sizeA 4000 = 4000 := by kernel_rfl
theorem size_new {a : Int} {n : Nat} (ha : a = (n : Int)) (hn : n ≤ 32768) : sizeA a = n := by
  unfold sizeA
  subst ha
  by_cases h : n = 0
  · subst h; rfl
  · rw [if_neg (by omega), if_pos (by omega)]; rfl
theorem own_be {w w' : World} {b : Nat} {e : TypeId} {size n : Nat} {v : Value} {cs : List Value} (h : w.ownsRow b e size v n cs) (hb : Below w.heap.size w w') : w'.ownsRow b e size v n cs := ownsRow_mods h (Mods.of_below (fun _ => False) hb) (fun _ _ => id)
theorem info64i : (Try.prog.info? 3).map (fun i => (i.zero, i.size, i.bytes)) = some (some (.int .i64 0), 1, 8) := by kernel_rfl
/-- The roots. -/
def rts (c i : Nat) : List Int := (List.range i).map (fun t => px (2 * c + 2 * t))
theorem rts_snoc (c i : Nat) : rts c (i + 1) = rts c i ++ [px (2 * c + 2 * i)] := by unfold rts; rw [List.range_succ, List.map_append]; rfl
theorem rts_len (c i : Nat) : (rts c i).length = i := by simp [rts]
theorem rts_W64 (c i : Nat) (h : c ≤ 100 ∧ i ≤ 100) : W64 (rts c i) := by
  intro x hx
  obtain ⟨t, ht, rfl⟩ := List.mem_map.1 hx
  have := List.mem_range.1 ht
  unfold px
  omega
theorem vs_I64 (c : Nat) (hc : c ≤ 1000) : I64 (vs 0 c) := by
  intro x hx
  obtain ⟨t, ht, rfl⟩ := List.mem_map.1 hx
  have := List.mem_range'_1.1 ht
  omega
theorem lead_bd (c : Nat) (h : c ≤ 1000) : 0 ≤ lead c ∧ lead c < 18446744073709551616 := by unfold lead px; split <;> omega
set_option maxHeartbeats 16000000 in
set_option maxRecDepth 100000 in
theorem law_calls (n k : Int) (w : World) :
    Calls Try.prog 10 #[.int .i64 n, .int .i64 k] w fun e w' => e = .returned (.bool true) ∧ Below w.heap.size w w' := by
  have r0 := Int.emod_nonneg n (show (30 : Int) ≠ 0 by omega)
  have r1 := Int.emod_lt_of_pos n (show (0 : Int) < 30 by omega)
  have q0 := Int.emod_nonneg k (show (20 : Int) ≠ 0 by omega)
  have q1 := Int.emod_lt_of_pos k (show (0 : Int) < 20 by omega)
  have HP1 := Aside0.mk (fun W => Go.Proofs.YtlifdpfhepamfaaPl.place_calls n 30 W (by omega) (by omega))
  have HP2 := Aside0.mk (fun W => Go.Proofs.YtlifdpfhepamfaaPl.place_calls k 20 W (by omega) (by omega))
  obtain ⟨kk, hkk⟩ : ∃ kk : Nat, n % 30 = (kk : Int) := ⟨(n % 30).toNat, by omega⟩
  obtain ⟨c, hc⟩ : ∃ c : Nat, k % 20 = (c : Int) := ⟨(k % 20).toNat, by omega⟩
  rw [hkk] at HP1 r1
  rw [hc] at HP2 q1
  have k29 : kk ≤ 29 := by omega
  have c19 : c ≤ 19 := by omega
  have HNEW := Aside0.mk (fun W B hB => new_calls 4000 W B hB)
  rw [sz4000] at HNEW
  clear r0 r1 q0 q1 hkk hc
  go_enter Try.func10, Try.ntmps10
  go_wp2_with fail
  refine (HP1.out _).mono ?_
  rintro e w0_ ⟨rfl, nd0, rfl⟩
  go_wp2_with fail
  refine (HP2.out _).mono ?_
  rintro e w1_ ⟨rfl, nd1, rfl⟩
  go_wp2_with fail
  refine (HNEW.out _ _ (Nat.le_refl _)).mono ?_
  rintro e w1 ⟨h, g, gw, m, rfl, hh, hb, hlo⟩
  have HH := Aside0.mk (show Hp w.heap.size w1 h g gw m (.slice none 0 0) [] 4000 [] from hh)
  have HB := Aside0.mk (show Below w.heap.size w w1 from (pw_below_drewN (Below.refl _ w) (nd0 + nd1)).trans hb)
  have HLO := Aside0.mk (fun k hk => show w.heap.size ≤ k from hlo k hk)
  obtain ⟨c0, c1, c2, f1⟩ := hh.cells
  clear hh hb hlo HNEW HP1 HP2
  go_wp2_with fail
  clear c0 c1 c2 f1
  go_loopg [8, 9] c (fun q v8 v9 wr => ∃ i : Nat, q = c - i ∧ i ≤ c ∧ v9 = .int .i64 i ∧ Aside0 (wr.ownsRow w1.heap.size 3 1 v8 (vs 0 i).length (nums .i64 (vs 0 i))) ∧ Aside0 (Below w1.heap.size w1 wr))
  case atStart => exact ⟨0, by omega, by omega, rfl, ⟨World.ownsRow_nil _ _ _ _⟩, ⟨Below.refl _ _⟩⟩
  case round =>
    obtain ⟨i, rfl, hi, rfl, HOW, HBE⟩ := hrel
    by_cases hlt : i < c
    · have b3 : (i : Int) < (c : Int) := by omega
      obtain ⟨W5, hW5⟩ : ∃ W5, wr.alloc (.cells #[.int .i64 (i : Int)] 3) = W5 := ⟨_, rfl⟩
      have hb5 : Below wr.heap.size wr W5 := hW5 ▸ below_alloc (Below.refl _ _) _
      have hn5 : W5.heap[wr.heap.size]? = some (.cells #[.int .i64 (i : Int)] 3 (0, 0)) := by rw [← hW5]; exact heap_alloc_new wr _
      have HOW6 := Aside0.mk (own_be HOW.out hb5)
      have HBE6 := Aside0.mk (below_step HBE.out hb5)
      have HRD5 : Aside0 (ReadsInt W5 .i64 (some ⟨wr.heap.size, 0, none⟩) 1 [(i : Int)]) := ⟨reads_blk (xs := [(i : Int)]) hn5 1 (by simp) (by omega)⟩
      have HOL := Aside0.mk (show ((vs 0 i).length + 1) * 8 ≤ 140737488355328 by rw [vs_len]; omega)
      have HVS := Aside0.mk (vs_snoc i)
      obtain ⟨ys, hys⟩ : ∃ ys, vs 0 i = ys := ⟨_, rfl⟩
      rw [hys] at HOW6 HOL HVS
      clear hb5 hn5 HOW HBE
      go_wp2_with (at_builtin; refine print_append_row (w0 := w1) w1.heap.size rfl (.tmp 41) (.tmp 43) 51 3 .i64 8 rfl Try.underlying51 info64i (by decide) u8 ys [(i : Int)] (some ⟨wr.heap.size, 0, none⟩) 1 1 rfl rfl HOW6.out HRD5.out HBE6.out HBE6.out.size HOL.out ?_; intro v1 w6 hown6 hb6 hg6 hat6)
      have HOW7 := Aside0.mk hown6
      have HBE7 := Aside0.mk hb6
      clear hown6 hb6 hg6 hat6
      go_wp2_with fail
      go_roundg (c - (i + 1))
      case measure => omega
      case rel => exact ⟨i + 1, rfl, by omega, by go_num, ⟨by rw [HVS.out]; exact HOW7.out⟩, HBE7⟩
    · obtain rfl : c = i := by omega
      have b3 : ¬ (c : Int) < (c : Int) := by omega
      obtain ⟨A3, c3, hv3, hc3, hr3, hat3⟩ := Go.Proofs.YtlifdpfhepamfaaRowK.Row.reads (Row.of_own HOW.out)
      subst hv3
      have hI := vs_I64 c (by omega)
      have hp1 := proper_f (vs 0 c) hI (by rw [vs_len]; omega)
      have HVL := Aside0.mk (vs_len 0 c)
      have HIV := Aside0.mk hI
      have HST := Aside0.mk (Sp.start c (by omega))
      have HWL := Aside0.mk (wL_le (vs 0 c))
      obtain ⟨ks, hks⟩ : ∃ ks, vs 0 c = ks := ⟨_, rfl⟩
      have HKS := Aside0.mk hks
      rw [hks] at hr3 hc3 hp1 HVL HIV HST HWL
      rw [hks]
      obtain ⟨x, hxx⟩ : ∃ x, LI ks = x := ⟨_, rfl⟩
      rw [hxx] at hp1
      have HPR := Aside0.mk (relictlaw00_Proper.calls 200 A3 c3 ks x.f0 x.f1.f0 x.f1.f1 x.f2 x.f3 x.f4 wr (Kd.C_of_reads (enc := Value.int .i64) (d := (0 : Int)) (h1 := fun _ => rfl) hr3) hc3 hp1)
      have HXX := Aside0.mk hxx
      have HHR := Aside0.mk (HH.out.below HBE.out)
      have HBR := Aside0.mk (HB.out.trans (HBE.out.mono HB.out.size))
      obtain ⟨nk, hnk⟩ : ∃ nk, ks.length = nk := ⟨_, rfl⟩
      rw [hnk] at HPR HVL
      rw [hnk]
      have HNK := Aside0.mk hnk
      clear hr3 hc3 hp1 hxx hI hat3 HOW hks hnk
      go_wp2_with fail
      refine HPR.out.mono ?_
      rintro e w3 ⟨v2, v5, rfl, t2, t5, hb⟩
      obtain ⟨A2, a2, rfl⟩ := Kd.V_slice t2
      obtain ⟨A5, a5, rfl⟩ := Kd.V_slice t5
      have hT : TF w3 (fun k => wr.heap.size ≤ k) x A2 a2 A5 a5 := ⟨Kd.V_F t2, (Kd.V_at t2).2.1, Kd.V_F t5, (Kd.V_at t5).2.1⟩
      rw [← HXX.out] at hT
      have hput := put_calls w3 w.heap.size h g gw m (.slice none 0 0) [] 4000 [] (fun k => wr.heap.size ≤ k) ks HIV.out (by rw [HNK.out, HVL.out]; omega) A2 a2 A5 a5 (HHR.out.below hb) hT
        (fun k hk hs => by have h1 := (HHR.out.foot k hs).2; omega) (by have h1 := HWL.out; rw [HNK.out, HVL.out] at h1; simp; omega)
      rw [HXX.out, HST.out.2] at hput
      have HSP0 := Aside0.mk HST.out.1
      generalize putLw ks [] = l4 at hput HSP0
      have hlb := lead_bd c (by omega)
      have HLB := Aside0.mk hlb
      obtain ⟨x4, hx4⟩ : ∃ x4, lead c = x4 := ⟨_, rfl⟩
      rw [hx4] at hput HLB
      have HX4 := Aside0.mk hx4
      unfold cellsT at hput
      have HPUT := Aside0.mk hput
      have HB3 := Aside0.mk (below_step HBR.out hb)
      clear t2 t5 hb hT hput HPR HST hlb hx4
      go_wp2_with fail
      refine HPUT.out.mono ?_
      rintro e w4 ⟨rfl, hh, hm⟩
      have HH4 := Aside0.mk hh
      have HB4 := Aside0.mk (show Below w.heap.size w w4 from HB3.out.trans (hm.below HB3.out.size (fun k hk => HLO.out k hk)))
      have HFT : Aside0 (∀ k, SH h g gw m (.slice none 0 0) k → w.heap.size ≤ k ∧ k < w4.heap.size) := ⟨fun k hk => ⟨HLO.out k hk, (hh.foot k hk).2⟩⟩
      clear hh hm HPUT HH HB HHR HBR HB3
      go_wp2_with fail
      clear HXX HIV HNK HWL HVL HKS
      go_loopg [12, 13] (kk + 1) (fun q v12 v13 wr => ∃ (i : Nat) (l : List Int), q = kk + 1 - i ∧ i ≤ kk + 1 ∧ v13 = .int .i64 i ∧ Aside0 (Sp l c i) ∧ Aside0 (Hp w.heap.size wr h g gw m (.slice none 0 0) l 4000 []) ∧ Aside0 (wr.ownsRow w4.heap.size 25 1 v12 (rts c i).length (nums .u64 (rts c i))) ∧ Aside0 (Mods (fun k => w.heap.size ≤ k ∧ k < w4.heap.size) w4 wr))
      case atStart => exact ⟨0, l4, by omega, by omega, rfl, HSP0, HH4, ⟨World.ownsRow_nil _ _ _ _⟩, ⟨Mods.refl _ _⟩⟩
      case round =>
        clear HSP0 HH4
        obtain ⟨i, l, rfl, hi, rfl, HSP, HHL, HOW, HMW⟩ := hrel
        by_cases hlt2 : i < kk + 1
        · have b4 : (i : Int) < 1 + (kk : Int) := by omega
          have hll := HSP.out.len
          obtain ⟨c0, c1, c2, f1⟩ := HHL.out.cells
          have HA := Aside0.mk (halloc2 HHL.out (k := 2 * (c : Int) + 2 * (i : Int)) (by omega) (by omega))
          have HLL := Aside0.mk hll
          clear hll
          go_wp2_with fail
          refine HA.out.mono ?_
          rintro e w5 ⟨rfl, hh, hm⟩
          have HH5 := Aside0.mk hh
          have HM5 := Aside0.mk (HMW.out.trans (hm.mono (S' := fun k => w.heap.size ≤ k ∧ k < w4.heap.size) HFT.out))
          have HO5 := Aside0.mk (ownsRow_mods HOW.out (hm.mono (S' := fun k => w.heap.size ≤ k ∧ k < w4.heap.size) HFT.out) (fun k hk hs => by have h1 := own_base HOW.out k hk; omega))
          clear hh hm HA HHL HMW HOW c0 c1 c2 f1
          obtain ⟨c0, c1, c2, f1⟩ := HH5.out.cells
          have HA := Aside0.mk (hset HH5.out (t := 2 * c + 2 * i) (x := 16 * (i : Int) + 3) (k := 2 * (c : Int) + 2 * (i : Int)) (by simp; have := HLL.out; omega) (by omega) (by omega) (by omega))
          go_wp2_with fail
          refine HA.out.mono ?_
          rintro e w6 ⟨rfl, hh, hm⟩
          have HH6 := Aside0.mk hh
          have HM6 := Aside0.mk (HM5.out.trans (hm.mono (S' := fun k => w.heap.size ≤ k ∧ k < w4.heap.size) HFT.out))
          have HO6 := Aside0.mk (ownsRow_mods HO5.out (hm.mono (S' := fun k => w.heap.size ≤ k ∧ k < w4.heap.size) HFT.out) (fun k hk hs => by have h1 := own_base HO5.out k hk; omega))
          clear hh hm HA HH5 HM5 HO5 c0 c1 c2 f1
          obtain ⟨c0, c1, c2, f1⟩ := HH6.out.cells
          have HA := Aside0.mk (hset HH6.out (t := 2 * c + 2 * i + 1) (x := x4) (k := 2 * (c : Int) + 2 * (i : Int) + 1) (by simp; have := HLL.out; omega) (by have := HLB.out; omega) (by have := HLB.out; omega) (by omega))
          go_wp2_with fail
          refine HA.out.mono ?_
          rintro e w7 ⟨rfl, hh, hm⟩
          have hpx : px (2 * c + 2 * i) = 4 * (2 * (c : Int) + 2 * (i : Int)) + 1 := by unfold px; omega
          have HH7 := Aside0.mk hh
          have HM7 := Aside0.mk (HM6.out.trans (hm.mono (S' := fun k => w.heap.size ≤ k ∧ k < w4.heap.size) HFT.out))
          have HO7 := Aside0.mk (ownsRow_mods HO6.out (hm.mono (S' := fun k => w.heap.size ≤ k ∧ k < w4.heap.size) HFT.out) (fun k hk hs => by have h1 := own_base HO6.out k hk; omega))
          have HSP7 := Aside0.mk HSP.out.step
          rw [HX4.out] at HSP7
          have HRS := Aside0.mk (rts_snoc c i)
          rw [hpx] at HRS
          have hol : (rts c i).length = i := rts_len c i
          obtain ⟨rs, hrs⟩ : ∃ rs, rts c i = rs := ⟨_, rfl⟩
          rw [hrs] at HO7 HRS hol
          obtain ⟨W8, hW8⟩ : ∃ W8, w7.alloc (.cells #[.int .u64 (4 * (2 * (c : Int) + 2 * (i : Int)) + 1)] 25) = W8 := ⟨_, rfl⟩
          have hb8 : Below w7.heap.size w7 W8 := hW8 ▸ below_alloc (Below.refl _ _) _
          have hn8 : W8.heap[w7.heap.size]? = some (.cells #[.int .u64 (4 * (2 * (c : Int) + 2 * (i : Int)) + 1)] 25 (0, 0)) := by rw [← hW8]; exact heap_alloc_new w7 _
          have HO8 := Aside0.mk (own_be HO7.out hb8)
          have HSZ : Aside0 (w4.heap.size ≤ W8.heap.size) := ⟨Nat.le_trans HM7.out.size hb8.size⟩
          have HRD8 : Aside0 (ReadsInt W8 .u64 (some ⟨w7.heap.size, 0, none⟩) 1 [4 * (2 * (c : Int) + 2 * (i : Int)) + 1]) := ⟨reads_blk (xs := [4 * (2 * (c : Int) + 2 * (i : Int)) + 1]) hn8 1 (by simp) (by omega)⟩
          have HOL := Aside0.mk (show (rs.length + 1) * 8 ≤ 140737488355328 by omega)
          have HHM : Aside0 (∀ w9, W8.grownBy w9 u12.ownBlock → Hp w.heap.size w9 h g gw m (.slice none 0 0) (((l ++ [0, 0]).set (2 * c + 2 * i) (16 * (i : Int) + 3)).set (2 * c + 2 * i + 1) x4) 4000 [] ∧ Mods (fun k => w.heap.size ≤ k ∧ k < w4.heap.size) w4 w9) := ⟨fun w9 hg9 => by
            have hm9 := Mods.of_grown hg9
            have hbs : ∀ k, some k = u12.ownBlock → w4.heap.size ≤ k := fun k e => own_base HO8.out k e.symm
            refine ⟨(HH7.out.below hb8).mods hm9 (fun k hk e => by have h1 := hbs k e; have h2 := (HFT.out k hk).2; omega), (HM7.out.then_below hb8).trans' hm9 (fun k hk => .inr (hbs k hk))⟩⟩
          clear hh hm HA HH6 HM6 HO6 HO7 c0 c1 c2 f1 hb8 hn8 hol hrs HSP hpx
          go_wp2_with (at_builtin; refine print_append_row (w0 := W8) w4.heap.size rfl (.tmp 85) (.tmp 90) 57 25 .u64 8 rfl Try.underlying57 Go.Proofs.YtlifdpfhepamfaaAr.info64 (by decide) u12 rs [4 * (2 * (c : Int) + 2 * (i : Int)) + 1] (some ⟨w7.heap.size, 0, none⟩) 1 1 rfl rfl HO8.out HRD8.out (Below.refl _ _) HSZ.out HOL.out ?_; intro v1 w9 hown9 hb9 hg9 hat9)
          have HO9 := Aside0.mk hown9
          have HH9 := Aside0.mk (HHM.out w9 hg9)
          clear hown9 hb9 hg9 hat9 HHM HH7 HM7 HO8
          go_wp2_with fail
          go_roundg (kk + 1 - (i + 1))
          case measure => omega
          case rel => exact ⟨i + 1, _, rfl, by omega, by go_num, HSP7, ⟨HH9.out.1⟩, ⟨by rw [HRS.out]; exact HO9.out⟩, ⟨HH9.out.2⟩⟩
        · obtain rfl : i = kk + 1 := by omega
          have b4 : ¬ (((kk + 1 : Nat) : Int) < 1 + (kk : Int)) := by omega
          have b5 : ¬ ((kk : Int) + 1 < 1 + (kk : Int)) := by omega
          obtain ⟨A4, c4, hv4, hc4, hr4, hat4⟩ := Go.Proofs.YtlifdpfhepamfaaRowK.Row.reads (Row.of_own HOW.out)
          subst hv4
          obtain ⟨to0, now0, h1, hI0⟩ := sh_start HSP.out
          obtain ⟨to2, now2, h2, hF⟩ := sh_scan HSP.out (by omega) ⟨by omega, by omega⟩ (kk + 1 + c) 0 0 to0 now0 (by omega) (by omega) hI0
          have hsz : sizeA (2 * (1 + (kk : Int)) + 2 * (c : Int)) = 2 * (kk + 1) + 2 * c := size_new (by omega) (by omega)
          have hcol := collect_calls wr h g gw m (.slice none 0 0) l 4000 [] w.heap.size A4 c4 (rts c (kk + 1)) (2 * (1 + (kk : Int)) + 2 * (c : Int)) HHL.out hr4 hc4 (rts_W64 c (kk + 1) ⟨by omega, by omega⟩) (by rw [rts_len]; omega) _ to0 now0 (kk + 1 + c + 1) to2 now2 (by rw [hsz]; exact h1) (by rw [hsz]; exact h2)
          rw [hsz] at hcol
          have hln : (rts c (kk + 1)).length = kk + 1 := rts_len c (kk + 1)
          rw [hln] at hcol
          rw [hln]
          have HCOL := Aside0.mk hcol
          have HFI := Aside0.mk hF
          have HBR : Aside0 (Below w.heap.size w wr) := ⟨HB4.out.trans (HMW.out.below HB4.out.size (fun k hk => hk.1))⟩
          have HHW : Aside0 (w.heap.size ≤ h) := ⟨HLO.out h (.inl rfl)⟩
          clear hcol hr4 hc4 hat4 h1 hI0 h2 hF hln HOW HHL HMW HB4 hsz
          go_wp2_with fail
          refine HCOL.out.mono ?_
          rintro e w8 ⟨A8, c8, g2, gw2, rfl, hr8, hc8, hh8, hm8, hg2, hgw2⟩
          -- behind Collect
          have el : ((List.range (kk + 1)).map (fun t => px (2 * t))).length = kk + 1 := by simp
          have eg : ∀ i, i < kk + 1 → ((List.range (kk + 1)).map (fun t => px (2 * t))).getD i 0 = px (2 * i) := fun i hi => by
            rw [List.getD_eq_getElem?_getD, List.getElem?_map, List.getElem?_range hi]
            rfl
          rw [el] at hr8 hc8 ⊢
          have HR8 := Aside0.mk hr8
          have HEG := Aside0.mk eg
          have HB8 : Aside0 (Below w.heap.size w w8) := ⟨HBR.out.trans (hm8.below HBR.out.size (fun k hk => by subst hk; exact HHW.out))⟩
          have HH8 := Aside0.mk hh8
          obtain ⟨c0, c1, c2, f1⟩ := hh8.cells
          have HU := Aside0.mk (used_calls w8 g2 gw2 _ to2 hh8.ar)
          rw [HFI.out.len, show ((2 * (kk + 1 + c) : Nat) : Int) = 2 * (1 + (kk : Int)) + 2 * (c : Int) by omega] at HU
          clear hr8 eg el hh8 hm8 hg2 hgw2 HCOL HBR HHW
          go_wp2_with fail
          refine HU.out.mono ?_
          rintro e w9 ⟨rfl, nd9, rfl⟩
          clear c0 c1 c2 f1 HU
          go_wp2_with fail
          go_loopg [18] (kk + 1) (fun q v18 wr => ∃ i : Nat, q = kk + 1 - i ∧ i ≤ kk + 1 ∧ v18 = .int .i64 i ∧ Aside0 (Below w8.heap.size w8 wr))
          case atStart => exact ⟨0, by omega, by omega, rfl, ⟨pw_below_drewN (Below.refl _ w8) nd9⟩⟩
          case round =>
            obtain ⟨i, rfl, hi, rfl, HBQ⟩ := hrel
            by_cases hlt3 : i < kk + 1
            · have b6 : (i : Int) < 1 + (kk : Int) := by omega
              obtain ⟨ad, eA, hcell⟩ := read_at (reads_mods HR8.out (Mods.of_below (fun _ => False) HBQ.out) (fun _ _ => id)) i hlt3
              subst eA
              rw [HEG.out i hlt3] at hcell
              have hrd := root_reads (B := w.heap.size) (h := h) (g := g2) (gw := gw2) (mm := m) (u := .slice none 0 0) (n := 2 * (kk + 1) + 2 * c) (ns := []) HFI.out ⟨by omega, by omega⟩ hlt3
              have hnd := nodes_LI ((i : Int) :: vs 0 c) 100 (by rw [List.length_cons, vs_len]; omega) (by rw [List.length_cons, vs_len]; omega)
              rw [List.length_cons, vs_len, show 2 * (((c - 0 + 1 : Nat)) : Int) + 1 = 2 * (c : Int) + 3 by omega] at hnd
              obtain ⟨u, hu⟩ : ∃ u, LI ((i : Int) :: vs 0 c) = u := ⟨_, rfl⟩
              obtain ⟨xv, hxv⟩ : ∃ xv, px (2 * i) = xv := ⟨_, rfl⟩
              rw [hu] at hrd hnd
              rw [hxv] at hrd hcell
              have HND := Aside0.mk hnd
              have HG := Aside0.mk (get_rds wr w.heap.size h g2 gw2 m (.slice none 0 0) to2 (2 * (kk + 1) + 2 * c) [] xv u _ (HH8.out.below HBQ.out) hrd (by omega))
              clear hrd hnd hu hxv
              go_wp2_with fail
              refine HG.out.mono ?_
              rintro e w10 ⟨v2, v5, rfl, hM, hb⟩
              obtain ⟨B2, b2_, B5, b5_, rfl, rfl, hT⟩ := tf_of_M hM
              obtain ⟨gt, hgt⟩ : ∃ gt, w10.heap.size = gt := ⟨_, rfl⟩
              obtain ⟨Wgt, hWgt⟩ : ∃ Wgt, w10.alloc (.cells #[.int .i64 0, .bool false, .slice none 0 0, .string ⟨#[]⟩, .int .i64 0, .slice none 0 0] 43) = Wgt := ⟨_, rfl⟩
              have hngt : Wgt.heap[gt]? = some (.cells #[.int .i64 0, .bool false, .slice none 0 0, .string ⟨#[]⟩, .int .i64 0, .slice none 0 0] 43 (0, 0)) := by rw [← hWgt, ← hgt]; exact heap_alloc_new _ _
              have hbgt : Below w10.heap.size w10 Wgt := by rw [← hWgt]; exact below_alloc (Below.refl _ _) _
              have mgt := six_put (a' := .int .i64 u.f0) (b' := .bool u.f1.f0) (c' := .slice B2 u.f1.f1.length b2_) (d' := .string u.f2) (e' := .int .i64 u.f3) (f' := .slice B5 u.f4.length b5_) hngt
              obtain ⟨tp0, tp1, tp2, tp3, tp4, tp5⟩ := six_cells hngt
              obtain ⟨tz0, tz1, tz2, tz3, tz4, tz5⟩ := six_live hngt
              obtain ⟨Vgt, hVgt⟩ : ∃ Vgt, (((((Wgt.setCell ⟨gt, 0, none⟩ (.int .i64 u.f0)).setCell ⟨gt, 1, none⟩ (.bool u.f1.f0)).setCell ⟨gt, 2, none⟩ (.slice B2 u.f1.f1.length b2_)).setCell ⟨gt, 3, none⟩ (.string u.f2)).setCell ⟨gt, 4, none⟩ (.int .i64 u.f3)).setCell ⟨gt, 5, none⟩ (.slice B5 u.f4.length b5_) = Vgt := ⟨_, rfl⟩
              rw [hVgt] at mgt
              have hcgt : Below w10.heap.size w10 Vgt := by rw [← hVgt]; exact below_six hbgt (by rw [hgt]; exact Nat.le_refl _)
              obtain ⟨tr0, tr1, tr2, tr3, tr4, tr5⟩ := six_cells mgt
              have HNO := Aside0.mk (nodes_tn (tn_of (hT.below hcgt)) HND.out)
              have HBN := Aside0.mk (below_step (below_step HBQ.out hb) hcgt)
              clear hM hT hb HG hngt hbgt hcgt mgt hcell
              unfold six
              unfold cellsT at HNO
              go_wp2_with fail
              refine HNO.out.mono ?_
              rintro e w11 ⟨rfl, hb⟩
              have HB11 := Aside0.mk (below_step HBN.out hb)
              clear hb HNO HBN
              go_wp2_with fail
              go_roundg (kk + 1 - (i + 1))
              case measure => omega
              case rel => exact ⟨i + 1, rfl, by omega, by go_num, HB11⟩
            · obtain rfl : i = kk + 1 := by omega
              have b6 : ¬ (((kk + 1 : Nat) : Int) < 1 + (kk : Int)) := by omega
              have b7 : ¬ ((kk : Int) + 1 < 1 + (kk : Int)) := by omega
              have HBX := Aside0.mk (below_step HB8.out HBQ.out)
              go_wp2_with fail
              refine (Go.Proofs.YtlifdpfhepamfaaCa.awake_calls _).mono ?_
              rintro e w13 ⟨rfl, hb⟩
              have HBF := Aside0.mk (below_step HBX.out hb)
              clear hb
              go_wp2_with fail
              go_ret
              exact ⟨rfl, HBF.out⟩
end Go.Proofs.YtlifdpfhepamfaaSw
