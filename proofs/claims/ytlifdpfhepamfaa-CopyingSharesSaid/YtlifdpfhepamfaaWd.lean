/- What words say; how many words an object has; is a word good? -/
import Derived.Test.YtlifdpfhepamfaaHp
import Derived.Test.YtlifdpfhepamfaaPHe5
import Derived.Outline
namespace Go.Proofs.YtlifdpfhepamfaaWd
open Go.RowKit Go.Maps Go.Proofs.YtlifdpfhepamfaaW.PrintWords Go.Proofs.YtlifdpfhepamfaaW.PrintLast Go.Proofs.YtlifdpfhepamfaaW.PrintMore Go.Proofs.YtlifdpfhepamfaaMem Go.Proofs.YtlifdpfhepamfaaLeaf Go.Proofs.YtlifdpfhepamfaaBits Go.Proofs.Ytlifdpfhepamfaa.PHe Go.Proofs.YtlifdpfhepamfaaRow Go.Proofs.YtlifdpfhepamfaaAr Go.Proofs.YtlifdpfhepamfaaHp Go.Proofs
attribute [local go_sem] max2_int min2_int max_two min_two max_three min_three max_four min_four
set_option linter.unusedVariables false
set_option linter.unusedSimpArgs false
theorem is_eq (w k : Int) (h0 : 0 ≤ k) (h1 : k < 4) : word_is.f w k = some (w % 16 == k * 4 + 3) := by
  unfold word_is.f
  have e1 : IntKind.u64.wrap ((IntKind.u64.wrap k) * 4) = k * 4 := by rw [wrap_u64, wrap_u64]; omega
  rw [u64_and15, e1, or_join 2 _ _ (by omega) (by omega) (by omega) (by omega) (by omega) (by omega)]
theorem tag_eq (w : Int) : word_Tag.f w = some (w % 4) := by
  unfold word_Tag.f; rw [u64_and3]; congr 1; unfold wrap64; omega
def intOfI (w : Int) : Int × Bool := if w % 16 = 3 then (wrap64 w / 16, true) else (0, false)
theorem intOf_eq (w : Int) : word_IntOf.f w = some (intOfI w) := by
  unfold word_IntOf.f intOfI
  rw [is_eq w 0 (by omega) (by omega)]; simp only [Option.bind_some]
  by_cases h : w % 16 = 3
  · rw [if_pos (by rw [beq_iff_eq]; omega), if_pos h]
  · rw [if_neg (by rw [beq_iff_eq]; omega), if_neg h]
def atI (w : Int) : Int := if w % 4 = 1 ∨ w % 4 = 2 then w / 4 else -1
theorem at_eq (w : Int) (h0 : 0 ≤ w) (h1 : w < 18446744073709551616) : word_At.f w = some (atI w) := by
  unfold word_At.f atI
  rw [tag_eq]; simp only [Option.bind_some]
  by_cases a : w % 4 = 1
  · rw [if_pos a, if_pos (.inl a)]; congr 1; unfold wrap64; omega
  · rw [if_neg a]
    by_cases b : w % 4 = 2
    · rw [if_pos b, if_pos (.inr b)]; congr 1; unfold wrap64; omega
    · rw [if_neg b, if_neg (by omega)]
def headOfI (w : Int) : Int × Int × Bool := if w % 4 = 0 then (w / 4 % 16, w / 64, true) else (0, 0, false)
theorem headOf_eq (w : Int) (h0 : 0 ≤ w) (h1 : w < 18446744073709551616) : word_HeadOf.f w = some (headOfI w) := by
  unfold word_HeadOf.f headOfI
  rw [tag_eq]; simp only [Option.bind_some]
  by_cases a : w % 4 = 0
  · rw [if_pos a, if_pos a, u64_and15]
    have e1 : wrap64 (w / 4 % 16) = w / 4 % 16 := by unfold wrap64; omega
    have e2 : wrap64 (w / 64) = w / 64 := by unfold wrap64; omega
    rw [e1, e2]
  · rw [if_neg a, if_neg a]
def isAtomI (w : Int) : Int × Bool := if w % 16 = 7 then (w / 16, true) else (0, false)
theorem isAtom_eq (w : Int) (h0 : 0 ≤ w) (h1 : w < 18446744073709551616) : word_IsAtom.f w = some (isAtomI w) := by
  unfold word_IsAtom.f isAtomI
  rw [is_eq w 1 (by omega) (by omega)]; simp only [Option.bind_some]
  have e1 : wrap64 (w / 16) = w / 16 := by unfold wrap64; omega
  by_cases h : w % 16 = 7
  · rw [if_pos (by rw [beq_iff_eq]; omega), if_pos h, e1]
  · rw [if_neg (by rw [beq_iff_eq]; omega), if_neg h]
def isCatchI (w : Int) : Int × Bool := if w % 16 = 15 then (w / 16, true) else (0, false)
theorem isCatch_eq (w : Int) (h0 : 0 ≤ w) (h1 : w < 18446744073709551616) : word_IsCatch.f w = some (isCatchI w) := by
  unfold word_IsCatch.f isCatchI
  rw [is_eq w 3 (by omega) (by omega)]; simp only [Option.bind_some]
  have e1 : wrap64 (w / 16) = w / 16 := by unfold wrap64; omega
  by_cases h : w % 16 = 15
  · rw [if_pos (by rw [beq_iff_eq]; omega), if_pos h, e1]
  · rw [if_neg (by rw [beq_iff_eq]; omega), if_neg h]
/-- How many words the object at a place has. -/
def extW (l : List Int) (k : Int) : Int := if l.getD k.toNat 0 % 4 = 0 then 1 + l.getD k.toNat 0 / 64 else 2
def extA (l : List Int) (k : Int) : Int := if 0 ≤ k ∧ k < (l.length : Nat) then (if extW l k ≤ (l.length : Nat) - k then extW l k else 0) else 0
set_option maxHeartbeats 4000000 in
set_option maxRecDepth 100000 in
theorem extent_calls (w : World) (g gw n : Nat) (l : List Int) (k : Int) (h : Ar w g gw l n) :
    Calls Try.prog 83 #[.pointer (some ⟨g, 0, none⟩), .int .i64 k] w fun e w' => e = .returned (.int .i64 (extA l k)) ∧ ∃ nd, w' = w.drewN nd := by
  have c1 := h.c1
  have hl := h.2.2.1
  have hn := h.2.2.2.1
  have HC := Aside0.mk (has_calls w g gw n l k h)
  have H := Aside0.mk h
  by_cases hk : 0 ≤ k ∧ k < (l.length : Nat)
  · have hb : (decide (0 ≤ k ∧ k < (l.length : Nat))) = true := decide_eq_true hk
    have hwd : wordA l k = l.getD k.toNat 0 := by unfold wordA; rw [if_pos hk]
    have hw := h.2.2.2.2.getD k.toNat
    have e1 : extA l k = if extW l k ≤ (l.length : Nat) - k then extW l k else 0 := by unfold extA; rw [if_pos hk]
    have e2 : extW l k = if l.getD k.toNat 0 % 4 = 0 then 1 + l.getD k.toNat 0 / 64 else 2 := rfl
    obtain ⟨hk0, hk1⟩ := hk
    rw [e1]
    generalize extW l k = x at e2 ⊢
    have HB := Aside0.mk hb
    have HW := Aside0.mk hwd
    clear e1 h hb hwd
    generalize l.getD k.toNat 0 = y at hw e2 HW ⊢
    have hd := headOf_eq y hw.1 hw.2
    by_cases hy : y % 4 = 0
    · rw [if_pos hy] at e2
      have hdi : headOfI y = (y / 4 % 16, y / 64, true) := by unfold headOfI; rw [if_pos hy]
      rw [hdi] at hd
      have HD := Aside0.mk hd
      have hz : 0 ≤ y / 64 ∧ y / 64 ≤ 288230376151711744 := by omega
      generalize y / 64 = z at e2 HD hz
      generalize y / 4 % 16 = v at HD
      have hz0 := hz.1
      have hz1 := hz.2
      by_cases hx : x ≤ (l.length : Nat) - k
      · rw [if_pos hx, e2]
        rw [e2] at hx
        clear hd hdi hw hy e2 hz
        go_enter Try.func83, Try.ntmps83
        go_wp2_with (first | (go_at_call 99; refine HC.out.mono ?_; rw [HB.out]; rintro e w' ⟨rfl, ⟨nd, rfl⟩⟩) | (go_at_call 55; refine (word_calls _ g gw n l k (Ar.drewN H.out _)).mono ?_; rw [HW.out]; rintro e w' ⟨rfl, ⟨nd2, rfl⟩⟩) | (go_at_call 96; refine (word_HeadOf.calls y v z true _ HD.out).mono ?_; rintro e w' ⟨rfl, ⟨nd3, rfl⟩⟩))
        go_ret
        exact ⟨by first | rfl | (simp; done), _, rfl⟩
      · rw [if_neg hx]
        rw [e2] at hx
        clear hd hdi hw hy e2 hz
        go_enter Try.func83, Try.ntmps83
        go_wp2_with (first | (go_at_call 99; refine HC.out.mono ?_; rw [HB.out]; rintro e w' ⟨rfl, ⟨nd, rfl⟩⟩) | (go_at_call 55; refine (word_calls _ g gw n l k (Ar.drewN H.out _)).mono ?_; rw [HW.out]; rintro e w' ⟨rfl, ⟨nd2, rfl⟩⟩) | (go_at_call 96; refine (word_HeadOf.calls y v z true _ HD.out).mono ?_; rintro e w' ⟨rfl, ⟨nd3, rfl⟩⟩))
        go_ret
        exact ⟨by first | rfl | (simp; done), _, rfl⟩
    · rw [if_neg hy] at e2
      have hdi : headOfI y = (0, 0, false) := by unfold headOfI; rw [if_neg hy]
      rw [hdi] at hd
      have HD := Aside0.mk hd
      by_cases hx : x ≤ (l.length : Nat) - k
      · rw [if_pos hx, e2]
        rw [e2] at hx
        clear hd hdi hw hy e2
        go_enter Try.func83, Try.ntmps83
        go_wp2_with (first | (go_at_call 99; refine HC.out.mono ?_; rw [HB.out]; rintro e w' ⟨rfl, ⟨nd, rfl⟩⟩) | (go_at_call 55; refine (word_calls _ g gw n l k (Ar.drewN H.out _)).mono ?_; rw [HW.out]; rintro e w' ⟨rfl, ⟨nd2, rfl⟩⟩) | (go_at_call 96; refine (word_HeadOf.calls y 0 0 false _ HD.out).mono ?_; rintro e w' ⟨rfl, ⟨nd3, rfl⟩⟩))
        go_ret
        exact ⟨by first | rfl | (simp; done), _, rfl⟩
      · rw [if_neg hx]
        rw [e2] at hx
        clear hd hdi hw hy e2
        go_enter Try.func83, Try.ntmps83
        go_wp2_with (first | (go_at_call 99; refine HC.out.mono ?_; rw [HB.out]; rintro e w' ⟨rfl, ⟨nd, rfl⟩⟩) | (go_at_call 55; refine (word_calls _ g gw n l k (Ar.drewN H.out _)).mono ?_; rw [HW.out]; rintro e w' ⟨rfl, ⟨nd2, rfl⟩⟩) | (go_at_call 96; refine (word_HeadOf.calls y 0 0 false _ HD.out).mono ?_; rintro e w' ⟨rfl, ⟨nd3, rfl⟩⟩))
        go_ret
        exact ⟨by first | rfl | (simp; done), _, rfl⟩
  · have e1 : extA l k = 0 := by unfold extA; rw [if_neg hk]
    have hb : (decide (0 ≤ k ∧ k < (l.length : Nat))) = false := decide_eq_false hk
    rw [e1]
    have HB := Aside0.mk hb
    clear h hk e1 hb
    go_enter Try.func83, Try.ntmps83
    go_wp2_with (go_at_call 99; refine HC.out.mono ?_; rw [HB.out]; rintro e w' ⟨rfl, ⟨nd, rfl⟩⟩)
    go_ret
    exact ⟨by first | rfl | (simp; done), nd, rfl⟩
/-- Is a word good, among these words? -/
def goodI (l : List Int) (x : Int) : Bool :=
  if x % 4 = 3 then !(decide (x % 16 = 15))
  else if x % 4 = 1 then decide (0 < extA l (atI x)) && !(headOfI (wordA l (atI x))).2.2
  else if x % 4 = 2 then decide (0 < extA l (atI x)) && ((headOfI (wordA l (atI x))).2.2 && (decide (1 ≤ (headOfI (wordA l (atI x))).1) && decide ((headOfI (wordA l (atI x))).1 ≤ 6)))
  else false
set_option maxHeartbeats 8000000 in
set_option maxRecDepth 100000 in
theorem good_calls (w : World) (B h g gw m : Nat) (v : Value) (l : List Int) (n : Nat) (ns : List ByteArray) (x : Int) (H : Hp B w h g gw m v l n ns) (h0 : 0 ≤ x) (h1 : x < 18446744073709551616) :
    Calls Try.prog 44 #[.pointer (some ⟨h, 0, none⟩), .int .u64 x] w fun e w' => e = .returned (.bool (goodI l x)) ∧ ∃ nd, w' = w.drewN nd := by
  obtain ⟨c0, _, _, _⟩ := H.cells
  have hat := at_eq x h0 h1
  have hwb := wordA_bd H.ar.2.2.2.2 (atI x)
  have hho := headOf_eq _ hwb.1 hwb.2
  have htg := tag_eq x
  have hcc := isCatch_eq x h0 h1
  have HW := Aside0.mk (fun W hA => Go.Proofs.YtlifdpfhepamfaaAr.word_calls W g gw n l (atI x) hA)
  have HX := Aside0.mk (fun W hA => extent_calls W g gw n l (atI x) hA)
  have HAR := Aside0.mk H.ar
  have hex : (extA l (atI x)) = extA l (atI x) := rfl
  have e1 : goodI l x = goodI l x := rfl
  conv at e1 => rhs; unfold goodI
  rw [e1]
  clear e1 hex
  have HAT := Aside0.mk (fun W => word_At.calls x _ W hat)
  have HTG := Aside0.mk (fun W => word_Tag.calls x _ W htg)
  have HHO := Aside0.mk (fun W => word_HeadOf.calls (wordA l (atI x)) (headOfI (wordA l (atI x))).1 (headOfI (wordA l (atI x))).2.1 (headOfI (wordA l (atI x))).2.2 W hho)
  have HCC := Aside0.mk (fun W => word_IsCatch.calls x (isCatchI x).1 (isCatchI x).2 W hcc)
  have hic : (isCatchI x).2 = decide (x % 16 = 15) := by unfold isCatchI; split <;> simp_all
  have htb : 0 ≤ x % 4 ∧ x % 4 < 4 := by omega
  rw [hic] at HCC
  clear hat hwb hho htg hcc H hic
  generalize (isCatchI x).1 = lab at HCC
  generalize decide (x % 16 = 15) = isc at HCC ⊢
  generalize extA l (atI x) = ex at HX ⊢
  generalize (headOfI (wordA l (atI x))).2.2 = hd at HHO ⊢
  generalize (headOfI (wordA l (atI x))).2.1 = sz at HHO ⊢
  generalize (headOfI (wordA l (atI x))).1 = kd at HHO ⊢
  generalize wordA l (atI x) = wd at HW HHO
  generalize atI x = at_ at HAT HW HX
  generalize x % 4 = tg at HTG htb ⊢
  obtain rfl | rfl | rfl | rfl : tg = 0 ∨ tg = 1 ∨ tg = 2 ∨ tg = 3 := by omega
  · clear htb
    go_enter Try.func44, Try.ntmps44
    go_wp2_with fail
    refine (HAT.out _).mono ?_
    rintro e w1 ⟨rfl, nd1, rfl⟩
    go_wp2_with fail
    refine (HW.out _ (Ar.drewN HAR.out _)).mono ?_
    rintro e w2 ⟨rfl, nd2, rfl⟩
    go_wp2_with fail
    refine (HHO.out _).mono ?_
    rintro e w3 ⟨rfl, nd3, rfl⟩
    go_wp2_with fail
    refine (HTG.out _).mono ?_
    rintro e w4 ⟨rfl, nd4, rfl⟩
    go_wp2_with fail
    go_ret
    exact ⟨rfl, _, rfl⟩
  · clear htb
    by_cases hx : 0 < ex
    · cases hd
      · go_enter Try.func44, Try.ntmps44
        go_wp2_with fail
        refine (HAT.out _).mono ?_
        rintro e w1 ⟨rfl, nd1, rfl⟩
        go_wp2_with fail
        refine (HW.out _ (Ar.drewN HAR.out _)).mono ?_
        rintro e w2 ⟨rfl, nd2, rfl⟩
        go_wp2_with fail
        refine (HHO.out _).mono ?_
        rintro e w3 ⟨rfl, nd3, rfl⟩
        go_wp2_with fail
        refine (HTG.out _).mono ?_
        rintro e w4 ⟨rfl, nd4, rfl⟩
        go_wp2_with fail
        refine (HX.out _ (Ar.drewN HAR.out _)).mono ?_
        rintro e w5 ⟨rfl, nd5, rfl⟩
        go_wp2_with fail
        go_ret
        exact ⟨by first | (simp [hx]; done) | (simp; intros; omega), _, rfl⟩
      · go_enter Try.func44, Try.ntmps44
        go_wp2_with fail
        refine (HAT.out _).mono ?_
        rintro e w1 ⟨rfl, nd1, rfl⟩
        go_wp2_with fail
        refine (HW.out _ (Ar.drewN HAR.out _)).mono ?_
        rintro e w2 ⟨rfl, nd2, rfl⟩
        go_wp2_with fail
        refine (HHO.out _).mono ?_
        rintro e w3 ⟨rfl, nd3, rfl⟩
        go_wp2_with fail
        refine (HTG.out _).mono ?_
        rintro e w4 ⟨rfl, nd4, rfl⟩
        go_wp2_with fail
        refine (HX.out _ (Ar.drewN HAR.out _)).mono ?_
        rintro e w5 ⟨rfl, nd5, rfl⟩
        go_wp2_with fail
        go_ret
        exact ⟨by first | (simp [hx]; done) | (simp; intros; omega), _, rfl⟩
    · go_enter Try.func44, Try.ntmps44
      go_wp2_with fail
      refine (HAT.out _).mono ?_
      rintro e w1 ⟨rfl, nd1, rfl⟩
      go_wp2_with fail
      refine (HW.out _ (Ar.drewN HAR.out _)).mono ?_
      rintro e w2 ⟨rfl, nd2, rfl⟩
      go_wp2_with fail
      refine (HHO.out _).mono ?_
      rintro e w3 ⟨rfl, nd3, rfl⟩
      go_wp2_with fail
      refine (HTG.out _).mono ?_
      rintro e w4 ⟨rfl, nd4, rfl⟩
      go_wp2_with fail
      refine (HX.out _ (Ar.drewN HAR.out _)).mono ?_
      rintro e w5 ⟨rfl, nd5, rfl⟩
      go_wp2_with fail
      go_ret
      exact ⟨by first | (simp [hx]; done) | (simp; intros; omega), _, rfl⟩
  · clear htb
    by_cases hx : 0 < ex
    · cases hd
      · go_enter Try.func44, Try.ntmps44
        go_wp2_with fail
        refine (HAT.out _).mono ?_
        rintro e w1 ⟨rfl, nd1, rfl⟩
        go_wp2_with fail
        refine (HW.out _ (Ar.drewN HAR.out _)).mono ?_
        rintro e w2 ⟨rfl, nd2, rfl⟩
        go_wp2_with fail
        refine (HHO.out _).mono ?_
        rintro e w3 ⟨rfl, nd3, rfl⟩
        go_wp2_with fail
        refine (HTG.out _).mono ?_
        rintro e w4 ⟨rfl, nd4, rfl⟩
        go_wp2_with fail
        refine (HX.out _ (Ar.drewN HAR.out _)).mono ?_
        rintro e w5 ⟨rfl, nd5, rfl⟩
        go_wp2_with fail
        go_ret
        exact ⟨by first | (simp [hx]; done) | (simp; intros; omega), _, rfl⟩
      · by_cases hk1 : 1 ≤ kd
        · by_cases hk2 : kd ≤ 6
          · go_enter Try.func44, Try.ntmps44
            go_wp2_with fail
            refine (HAT.out _).mono ?_
            rintro e w1 ⟨rfl, nd1, rfl⟩
            go_wp2_with fail
            refine (HW.out _ (Ar.drewN HAR.out _)).mono ?_
            rintro e w2 ⟨rfl, nd2, rfl⟩
            go_wp2_with fail
            refine (HHO.out _).mono ?_
            rintro e w3 ⟨rfl, nd3, rfl⟩
            go_wp2_with fail
            refine (HTG.out _).mono ?_
            rintro e w4 ⟨rfl, nd4, rfl⟩
            go_wp2_with fail
            refine (HX.out _ (Ar.drewN HAR.out _)).mono ?_
            rintro e w5 ⟨rfl, nd5, rfl⟩
            go_wp2_with fail
            go_ret
            exact ⟨by simp [hx, hk1, hk2], _, rfl⟩
          · go_enter Try.func44, Try.ntmps44
            go_wp2_with fail
            refine (HAT.out _).mono ?_
            rintro e w1 ⟨rfl, nd1, rfl⟩
            go_wp2_with fail
            refine (HW.out _ (Ar.drewN HAR.out _)).mono ?_
            rintro e w2 ⟨rfl, nd2, rfl⟩
            go_wp2_with fail
            refine (HHO.out _).mono ?_
            rintro e w3 ⟨rfl, nd3, rfl⟩
            go_wp2_with fail
            refine (HTG.out _).mono ?_
            rintro e w4 ⟨rfl, nd4, rfl⟩
            go_wp2_with fail
            refine (HX.out _ (Ar.drewN HAR.out _)).mono ?_
            rintro e w5 ⟨rfl, nd5, rfl⟩
            go_wp2_with fail
            go_ret
            exact ⟨by simp [hx, hk1, hk2], _, rfl⟩
        · go_enter Try.func44, Try.ntmps44
          go_wp2_with fail
          refine (HAT.out _).mono ?_
          rintro e w1 ⟨rfl, nd1, rfl⟩
          go_wp2_with fail
          refine (HW.out _ (Ar.drewN HAR.out _)).mono ?_
          rintro e w2 ⟨rfl, nd2, rfl⟩
          go_wp2_with fail
          refine (HHO.out _).mono ?_
          rintro e w3 ⟨rfl, nd3, rfl⟩
          go_wp2_with fail
          refine (HTG.out _).mono ?_
          rintro e w4 ⟨rfl, nd4, rfl⟩
          go_wp2_with fail
          refine (HX.out _ (Ar.drewN HAR.out _)).mono ?_
          rintro e w5 ⟨rfl, nd5, rfl⟩
          go_wp2_with fail
          go_ret
          exact ⟨by first | (simp [hx, hk1]; done) | (simp; intros; omega), _, rfl⟩
    · go_enter Try.func44, Try.ntmps44
      go_wp2_with fail
      refine (HAT.out _).mono ?_
      rintro e w1 ⟨rfl, nd1, rfl⟩
      go_wp2_with fail
      refine (HW.out _ (Ar.drewN HAR.out _)).mono ?_
      rintro e w2 ⟨rfl, nd2, rfl⟩
      go_wp2_with fail
      refine (HHO.out _).mono ?_
      rintro e w3 ⟨rfl, nd3, rfl⟩
      go_wp2_with fail
      refine (HTG.out _).mono ?_
      rintro e w4 ⟨rfl, nd4, rfl⟩
      go_wp2_with fail
      refine (HX.out _ (Ar.drewN HAR.out _)).mono ?_
      rintro e w5 ⟨rfl, nd5, rfl⟩
      go_wp2_with fail
      go_ret
      exact ⟨by first | (simp [hx]; done) | (simp; intros; omega), _, rfl⟩
  · clear htb
    go_enter Try.func44, Try.ntmps44
    go_wp2_with fail
    refine (HAT.out _).mono ?_
    rintro e w1 ⟨rfl, nd1, rfl⟩
    go_wp2_with fail
    refine (HW.out _ (Ar.drewN HAR.out _)).mono ?_
    rintro e w2 ⟨rfl, nd2, rfl⟩
    go_wp2_with fail
    refine (HHO.out _).mono ?_
    rintro e w3 ⟨rfl, nd3, rfl⟩
    go_wp2_with fail
    refine (HTG.out _).mono ?_
    rintro e w4 ⟨rfl, nd4, rfl⟩
    go_wp2_with fail
    refine (HCC.out _).mono ?_
    rintro e w5 ⟨rfl, nd5, rfl⟩
    go_wp2_with fail
    go_ret
    exact ⟨rfl, _, rfl⟩
end Go.Proofs.YtlifdpfhepamfaaWd
