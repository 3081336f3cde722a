/- A ring of cells, copied: in plain Lean. -/
import Derived.Test.YtlifdpfhepamfaaCyM
namespace Go.Proofs.YtlifdpfhepamfaaRing
open Go.RowKit Go.Maps Go.Proofs.YtlifdpfhepamfaaW.PrintWords Go.Proofs.YtlifdpfhepamfaaW.PrintLast Go.Proofs.YtlifdpfhepamfaaW.PrintMore Go.Proofs.YtlifdpfhepamfaaMem Go.Proofs.YtlifdpfhepamfaaLeaf Go.Proofs.YtlifdpfhepamfaaBits Go.Proofs.Ytlifdpfhepamfaa.PHe Go.Proofs.YtlifdpfhepamfaaRow Go.Proofs.YtlifdpfhepamfaaAr Go.Proofs.YtlifdpfhepamfaaHp Go.Proofs.YtlifdpfhepamfaaHo Go.Proofs.YtlifdpfhepamfaaWd Go.Proofs.YtlifdpfhepamfaaCp Go.Proofs.YtlifdpfhepamfaaCm Go.Proofs.YtlifdpfhepamfaaCk Go.Proofs.YtlifdpfhepamfaaCc Go.Proofs
set_option linter.unusedVariables false
set_option linter.unusedSimpArgs false
theorem idx_eq {f k j : Nat} (hf : f < k) (hj : j ≤ k) : (f + j) % k = if f + j < k then f + j else f + j - k := by
  split
  · exact Nat.mod_eq_of_lt (by omega)
  · rw [Nat.mod_eq_sub_mod (by omega)]; exact Nat.mod_eq_of_lt (by omega)
theorem idx_inj {f k a b : Nat} (hf : f < k) (ha : a < k) (hb : b < k) (h : (f + a) % k = (f + b) % k) : a = b := by
  rw [idx_eq hf (by omega), idx_eq hf (by omega)] at h
  split at h <;> split at h <;> omega
/-- A ring of so many cells, behind so many words. -/
structure Rg (l : List Int) (e k : Nat) : Prop where
  len : l.length = e + 2 * k
  a : ∀ i, i < k → l.getD (e + 2 * i) 0 = 16 * (i : Int) + 3
  b : ∀ i, i < k → l.getD (e + 2 * i + 1) 0 = 4 * ((e + 2 * ((i + 1) % k) : Nat) : Int) + 1
/-- The word of a cell. -/
def px (t : Nat) : Int := 4 * (t : Int) + 1
theorem px_at (t : Nat) : atI (px t) = (t : Int) ∧ px t % 4 = 1 ∧ pointsI (px t) = true := by
  have h : px t % 4 = 1 := by unfold px; omega
  refine ⟨?_, h, ?_⟩
  · unfold atI; rw [if_pos (.inl h)]; unfold px; omega
  · unfold pointsI; simp [h]
theorem ext_cell {l : List Int} {t : Nat} (h : l.getD t 0 % 4 = 3) (hl : t + 2 ≤ l.length) : extA l (t : Int) = 2 := by
  have hw : extW l (t : Int) = 2 := by unfold extW; rw [Int.toNat_natCast, if_neg (by omega)]
  unfold extA
  rw [if_pos (by omega), hw, if_pos (by omega)]
theorem word_nat {l : List Int} {t : Nat} (h : t < l.length) : wordA l (t : Int) = l.getD t 0 := by
  unfold wordA
  rw [if_pos (by omega), Int.toNat_natCast]
theorem good_cell {l : List Int} {t : Nat} (h : l.getD t 0 % 4 = 3) (hl : t + 2 ≤ l.length) : goodI l (px t) = true := by
  obtain ⟨p1, p2, p3⟩ := px_at t
  unfold goodI
  rw [if_neg (by omega), if_pos p2, p1, ext_cell h hl, word_nat (by omega)]
  unfold headOfI
  rw [if_neg (by omega)]
  rfl
theorem inner_cell {l : List Int} {t : Nat} (h : l.getD t 0 % 4 = 3) (hl : t < l.length) : innerI l (t : Int) = (0, 2) := by
  unfold innerI
  rw [word_nat hl]
  have : (headOfI (l.getD t 0)).2.2 = false := by unfold headOfI; rw [if_neg (by omega)]
  rw [this, if_neg (by simp)]
theorem set_same {l : List Int} {t : Nat} (h : t < l.length) : setA l (t : Int) (l.getD t 0) = l := by
  unfold setA
  rw [if_pos (by omega), Int.toNat_natCast, List.getD_eq_getElem?_getD, List.getElem?_eq_getElem h]
  simp
theorem move_imm (l : List Int) (n2 : Nat) (to_ : List Int) (now : List (Int × Nat)) (x : Int) (h : x % 4 = 3) : moveF l n2 to_ now x = (x, true, to_, now) := by
  unfold moveF pointsI
  rw [if_pos (by simp [h])]
theorem move_hit {l : List Int} {n2 : Nat} {to_ : List Int} {now : List (Int × Nat)} {t u : Nat} (h : l.getD t 0 % 4 = 3) (hl : t + 2 ≤ l.length) (hk : lk now (t : Int) = some u) : moveF l n2 to_ now (px t) = (px u, true, to_, now) := by
  obtain ⟨p1, p2, p3⟩ := px_at t
  unfold moveF
  rw [if_neg (by rw [p3]; simp), if_neg (by rw [good_cell h hl]; simp), p1, hk, p2]
  simp only [ptrW, px]
  congr 1
  omega
theorem move_miss {l : List Int} {n2 : Nat} {to_ : List Int} {now : List (Int × Nat)} {t : Nat} (h : l.getD t 0 % 4 = 3) (hl : t + 2 ≤ l.length) (hk : lk now (t : Int) = none) (hr : to_.length + 2 ≤ n2) :
    moveF l n2 to_ now (px t) = (px to_.length, true, to_ ++ [l.getD t 0, l.getD (t + 1) 0], ((t : Int), to_.length) :: now) := by
  obtain ⟨p1, p2, p3⟩ := px_at t
  unfold moveF
  rw [if_neg (by rw [p3]; simp), if_neg (by rw [good_cell h hl]; simp), p1, hk, p2, ext_cell h hl]
  simp only
  rw [if_pos (by simp; omega)]
  have e1 : (l.drop (t : Int).toNat).take (2 : Int).toNat = [l.getD t 0, l.getD (t + 1) 0] := by
    have hd : l.drop t = l[t]'(by omega) :: l[t + 1]'(by omega) :: l.drop (t + 1 + 1) := by rw [List.drop_eq_getElem_cons (by omega), List.drop_eq_getElem_cons (by omega)]
    rw [Int.toNat_natCast, show (2 : Int).toNat = 2 from rfl, hd, List.getD_eq_getElem?_getD, List.getD_eq_getElem?_getD, List.getElem?_eq_getElem (by omega), List.getElem?_eq_getElem (by omega)]
    rfl
  rw [e1]
  simp only [ptrW, px]
  congr 1
  omega
/-- So many cells are scanned; one more is moved. -/
structure Iv (l : List Int) (e k f s : Nat) (to_ : List Int) (now : List (Int × Nat)) : Prop where
  len : to_.length = 2 * (s + 1)
  ca : ∀ j, j ≤ s → to_.getD (2 * j) 0 = 16 * (((f + j) % k : Nat) : Int) + 3
  cb : ∀ j, j < s → to_.getD (2 * j + 1) 0 = px (2 * (j + 1))
  cs : to_.getD (2 * s + 1) 0 = px (e + 2 * ((f + s + 1) % k))
  hit : ∀ j, j ≤ s → lk now ((e + 2 * ((f + j) % k) : Nat) : Int) = some (2 * j)
  miss : ∀ i, i < k → (∀ j, j ≤ s → (f + j) % k ≠ i) → lk now ((e + 2 * i : Nat) : Int) = none
/-- The ring in its new place. -/
structure Fin (k f : Nat) (to_ : List Int) : Prop where
  len : to_.length = 2 * k
  ca : ∀ j, j < k → to_.getD (2 * j) 0 = 16 * (((f + j) % k : Nat) : Int) + 3
  cb : ∀ j, j < k → to_.getD (2 * j + 1) 0 = px (2 * ((j + 1) % k))
theorem lk_cons (a b : Int) (u : Nat) (now : List (Int × Nat)) : lk ((a, u) :: now) b = if b = a then some u else lk now b := by
  unfold lk
  rw [List.lookup_cons]
  by_cases h : b = a
  · subst h; simp
  · rw [if_neg h]
    have : (b == a) = false := by simpa using h
    rw [this]
theorem getD_upd (to_ : List Int) (a b v : Int) (n m : Nat) (hn : n < to_.length) : ((to_ ++ [a, b]).set n v).getD m 0 = if m = n then v else if m < to_.length then to_.getD m 0 else if m = to_.length then a else if m = to_.length + 1 then b else 0 := by
  rw [List.getD_eq_getElem?_getD, List.getElem?_set]
  by_cases h1 : m = n
  · subst h1
    rw [if_pos rfl, if_pos rfl, if_pos (by simp; omega)]
    rfl
  · rw [if_neg (fun e => h1 e.symm), if_neg h1]
    by_cases h2 : m < to_.length
    · rw [if_pos h2, List.getElem?_append_left h2, List.getD_eq_getElem?_getD]
    · rw [if_neg h2, List.getElem?_append_right (by omega)]
      by_cases h3 : m = to_.length
      · subst h3; simp
      · rw [if_neg h3]
        by_cases h4 : m = to_.length + 1
        · subst h4; simp
        · rw [if_neg h4, List.getElem?_eq_none (by simp; omega)]
          rfl
theorem getD_set (to_ : List Int) (v : Int) (n m : Nat) (hn : n < to_.length) : (to_.set n v).getD m 0 = if m = n then v else to_.getD m 0 := by
  rw [List.getD_eq_getElem?_getD, List.getElem?_set]
  by_cases h1 : m = n
  · subst h1
    rw [if_pos rfl, if_pos rfl, if_pos hn]
    rfl
  · rw [if_neg (fun e => h1 e.symm), if_neg h1, List.getD_eq_getElem?_getD]
section
variable {l : List Int} {e k f s : Nat} {to_ : List Int} {now : List (Int × Nat)}
theorem ring_start (H : Rg l e k) (hf : f < k) : ∃ to0 now0, rootsF l (2 * k) [px (e + 2 * f)] [] [] [] = some ([px 0], to0, now0) ∧ Iv l e k f 0 to0 now0 := by
  have h3 : l.getD (e + 2 * f) 0 % 4 = 3 := by rw [H.a f hf]; omega
  have hl : e + 2 * f + 2 ≤ l.length := by rw [H.len]; omega
  have hm := move_miss (l := l) (n2 := 2 * k) (to_ := []) (now := []) h3 hl rfl (by simp; omega)
  refine ⟨[l.getD (e + 2 * f) 0, l.getD (e + 2 * f + 1) 0], [(((e + 2 * f : Nat) : Int), 0)], ?_, ?_⟩
  · simp only [rootsF, hm]
    rw [if_pos trivial]
    rfl
  · have e0 : (f + 0) % k = f := by rw [Nat.add_zero]; exact Nat.mod_eq_of_lt hf
    refine ⟨rfl, fun j hj => ?_, fun j hj => by omega, ?_, fun j hj => ?_, fun i hi hn => ?_⟩
    · obtain rfl : j = 0 := by omega
      rw [e0]
      exact H.a f hf
    · exact H.b f hf
    · obtain rfl : j = 0 := by omega
      rw [e0, lk_cons, if_pos rfl]
    · have := hn 0 (Nat.le_refl _)
      rw [e0] at this
      rw [lk_cons, if_neg (by omega)]
      rfl
theorem ring_step (H : Rg l e k) (hf : f < k) (hs : s < k) (I : Iv l e k f s to_ now) :
    ∃ to1 now1, innerF l (2 * k) 2 ((2 * s : Nat) : Int) to_ now = some (to1, now1) ∧ to1.getD (2 * s) 0 % 4 = 3 ∧ 2 * s + 2 ≤ to1.length ∧ (s + 1 < k → Iv l e k f (s + 1) to1 now1) ∧ (s + 1 = k → Fin k f to1) := by
  have hlen := I.len
  have hc := I.ca s (Nat.le_refl _)
  have h3 : to_.getD (2 * s) 0 % 4 = 3 := by rw [hc]; omega
  have m0 := move_imm l (2 * k) to_ now _ h3
  have w0 := word_nat (l := to_) (t := 2 * s) (by omega)
  have s0 := set_same (l := to_) (t := 2 * s) (by omega)
  have w1 := word_nat (l := to_) (t := 2 * s + 1) (by omega)
  rw [I.cs] at w1
  obtain ⟨i, hi⟩ : ∃ i, (f + s + 1) % k = i := ⟨_, rfl⟩
  have hik : i < k := by rw [← hi]; exact Nat.mod_lt _ (by omega)
  rw [hi] at w1
  have t3 : l.getD (e + 2 * i) 0 % 4 = 3 := by rw [H.a i hik]; omega
  have tl : e + 2 * i + 2 ≤ l.length := by rw [H.len]; omega
  have ep : ((2 * s : Nat) : Int) + 1 = ((2 * s + 1 : Nat) : Int) := by omega
  by_cases hlast : s + 1 < k
  · have hmiss := I.miss i hik (fun j hj he => by
      have : (f + j) % k = (f + (s + 1)) % k := by rw [he, ← hi]; rfl
      have := idx_inj hf (by omega) hlast this
      omega)
    have m1 := move_miss (l := l) (n2 := 2 * k) (to_ := to_) (now := now) t3 tl hmiss (by omega)
    refine ⟨setA (to_ ++ [l.getD (e + 2 * i) 0, l.getD (e + 2 * i + 1) 0]) ((2 * s + 1 : Nat) : Int) (px to_.length), (((e + 2 * i : Nat) : Int), to_.length) :: now, ?_, ?_⟩
    · simp only [innerF, w0, m0, s0, ep, w1, m1]
      rfl
    · have hset : setA (to_ ++ [l.getD (e + 2 * i) 0, l.getD (e + 2 * i + 1) 0]) ((2 * s + 1 : Nat) : Int) (px to_.length) = (to_ ++ [l.getD (e + 2 * i) 0, l.getD (e + 2 * i + 1) 0]).set (2 * s + 1) (px to_.length) := by
        unfold setA
        rw [if_pos (by simp; omega), Int.toNat_natCast]
      rw [hset]
      have hg := fun m => getD_upd to_ (l.getD (e + 2 * i) 0) (l.getD (e + 2 * i + 1) 0) (px to_.length) (2 * s + 1) m (by omega)
      refine ⟨by rw [hg, if_neg (by omega), if_pos (by omega)]; exact h3, by simp; omega, fun _ => ?_, fun h => by omega⟩
      have hi' : (f + (s + 1)) % k = i := hi
      refine ⟨by simp; omega, fun j hj => ?_, fun j hj => ?_, ?_, fun j hj => ?_, fun q hq hn => ?_⟩
      · rw [hg, if_neg (by omega)]
        by_cases h : j ≤ s
        · rw [if_pos (by omega)]; exact I.ca j h
        · obtain rfl : j = s + 1 := by omega
          rw [if_neg (by omega), if_pos (by omega), H.a i hik, hi']
      · rw [hg]
        by_cases h : j < s
        · rw [if_neg (by omega), if_pos (by omega)]; exact I.cb j h
        · obtain rfl : j = s := by omega
          rw [if_pos rfl, hlen]
      · rw [hg, if_neg (by omega), if_neg (by omega), if_neg (by omega), if_pos (by omega), H.b i hik]
        have : (f + (s + 1) + 1) % k = (i + 1) % k := by rw [← hi', Nat.mod_add_mod]
        rw [this]
        rfl
      · rw [lk_cons]
        by_cases h : j ≤ s
        · rw [if_neg (fun he => by
            have : (f + j) % k = (f + (s + 1)) % k := by rw [hi']; omega
            have := idx_inj hf (by omega) hlast this
            omega)]
          exact I.hit j h
        · obtain rfl : j = s + 1 := by omega
          rw [hi', if_pos rfl, hlen]
      · rw [lk_cons, if_neg (fun he => hn (s + 1) (Nat.le_refl _) (by rw [hi']; omega))]
        exact I.miss q hq (fun j hj => hn j (by omega))
  · have hsk : s + 1 = k := by omega
    have hif : i = f := by
      rw [← hi, show f + s + 1 = f + k by omega, Nat.add_mod_right]
      exact Nat.mod_eq_of_lt hf
    have hhit := I.hit 0 (Nat.zero_le _)
    rw [show (f + 0) % k = i by rw [Nat.add_zero, Nat.mod_eq_of_lt hf, hif]] at hhit
    have m1 := move_hit (l := l) (n2 := 2 * k) (to_ := to_) (now := now) t3 tl hhit
    refine ⟨setA to_ ((2 * s + 1 : Nat) : Int) (px 0), now, ?_, ?_⟩
    · simp only [innerF, w0, m0, s0, ep, w1, m1]
      rfl
    · have hset : setA to_ ((2 * s + 1 : Nat) : Int) (px 0) = to_.set (2 * s + 1) (px 0) := by
        unfold setA
        rw [if_pos (by omega), Int.toNat_natCast]
      rw [hset]
      have hg := fun m => getD_set to_ (px 0) (2 * s + 1) m (by omega)
      refine ⟨by rw [hg, if_neg (by omega)]; exact h3, by simp; omega, fun h => by omega, fun _ => ?_⟩
      refine ⟨by simp; omega, fun j hj => ?_, fun j hj => ?_⟩
      · rw [hg, if_neg (by omega)]; exact I.ca j (by omega)
      · rw [hg]
        by_cases h : j < s
        · rw [if_neg (by omega), Nat.mod_eq_of_lt (by omega)]; exact I.cb j h
        · obtain rfl : j = s := by omega
          rw [if_pos rfl, hsk, Nat.mod_self]
theorem ring_scan (H : Rg l e k) (hf : f < k) : ∀ (d s : Nat) (to_ : List Int) (now : List (Int × Nat)), s + d + 1 = k → Iv l e k f s to_ now → ∃ to2 now2, scanF l (2 * k) (d + 2) ((2 * s : Nat) : Int) to_ now = some (to2, now2) ∧ Fin k f to2 := by
  intro d
  induction d with
  | zero =>
    intro s to_ now hsd I
    obtain ⟨to1, now1, h1, h2, h3, _, h5⟩ := ring_step H hf (by omega) I
    have hF := h5 (by omega)
    refine ⟨to1, now1, ?_, hF⟩
    have hi := inner_cell (l := to_) (t := 2 * s) (by rw [I.ca s (Nat.le_refl _)]; omega) (by have := I.len; omega)
    have hx := ext_cell h2 h3
    have hl := I.len
    rw [scanF, if_neg (by omega), hi, if_pos (by omega), show ((0 : Int), (2 : Int)).2.toNat = 2 from rfl, show ((2 * s : Nat) : Int) + ((0 : Int), (2 : Int)).1 = ((2 * s : Nat) : Int) by simp, h1]
    simp only [Option.bind_some, hx]
    rw [scanF, if_pos (by rw [hF.len]; omega)]
  | succ d ih =>
    intro s to_ now hsd I
    obtain ⟨to1, now1, h1, h2, h3, h4, _⟩ := ring_step H hf (by omega) I
    obtain ⟨to2, now2, g1, g2⟩ := ih (s + 1) to1 now1 (by omega) (h4 (by omega))
    refine ⟨to2, now2, ?_, g2⟩
    have hi := inner_cell (l := to_) (t := 2 * s) (by rw [I.ca s (Nat.le_refl _)]; omega) (by have := I.len; omega)
    have hx := ext_cell h2 h3
    have hl := I.len
    rw [scanF, if_neg (by omega), hi, if_pos (by omega), show ((0 : Int), (2 : Int)).2.toNat = 2 from rfl, show ((2 * s : Nat) : Int) + ((0 : Int), (2 : Int)).1 = ((2 * s : Nat) : Int) by simp, h1]
    simp only [Option.bind_some, hx]
    rw [show ((2 * s : Nat) : Int) + 2 = ((2 * (s + 1) : Nat) : Int) by omega]
    exact g1
end
end Go.Proofs.YtlifdpfhepamfaaRing
