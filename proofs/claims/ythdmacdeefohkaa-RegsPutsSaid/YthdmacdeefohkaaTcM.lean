/- Light terms: copied whole, the same as themselves; what a machine has in hand, read off its cells; Few and FewArgs end. -/
import Derived.Test.YthdmacdeefohkaaMTermB
import Derived.Test.YthdmacdeefohkaaMValA
import Derived.Test.YthdmacdeefohkaaPMa7
import Derived.Test.YthdmacdeefohkaaPMa13
namespace Go.Proofs.YthdmacdeefohkaaTc
open Go.RowKit Go.Proofs.YthdmacdeefohkaaW.PrintWords Go.Proofs.YthdmacdeefohkaaW.PrintLast Go.Proofs.YthdmacdeefohkaaW.PrintMore Go.Proofs.YthdmacdeefohkaaMem Go.Proofs.YthdmacdeefohkaaLeaf Go.Proofs.YthdmacdeefohkaaBits Go.Proofs.Ythdmacdeefohkaa.PMa Go.Proofs.YthdmacdeefohkaaMTerm Go.Proofs.YthdmacdeefohkaaMVal Go.Proofs
set_option linter.unusedVariables false
set_option linter.unusedSimpArgs false
theorem lift {α : Type} {f : Nat → Option α} (hm : ∀ k, LeO (f k) (f (k + 1))) {a b : Nat} (hab : a ≤ b) {r : α} (h : f a = some r) : f b = some r := by
  induction b with
  | zero => obtain rfl : a = 0 := by omega
            exact h
  | succ b ih =>
    by_cases he : a = b + 1
    · subst he; exact h
    · exact hm b r (ih (by omega))
theorem eta45 (x : S45) : (⟨x.f0, ⟨x.f1.f0, x.f1.f1⟩, x.f2, x.f3, x.f4⟩ : S45) = x := by cases x; rfl
/-- A term of few nodes. -/
def Lt : Nat → S45 → Prop
  | 0, _ => False
  | m + 1, x => x.f1.f1.length ≤ 40 ∧ x.f2.size ≤ 500 ∧ x.f4.length ≤ m ∧ ∀ y, y ∈ x.f4 → Lt m y
theorem Lt.up : ∀ {m : Nat} {x : S45}, Lt m x → ∀ n, m ≤ n → Lt n x := by
  intro m
  induction m with
  | zero => intro x h; exact h.elim
  | succ m ih =>
    intro x h n hn
    obtain ⟨n, rfl⟩ : ∃ k, n = k + 1 := ⟨n - 1, by omega⟩
    obtain ⟨h1, h2, h3, h4⟩ := h
    exact ⟨h1, h2, by omega, fun y hy => ih (h4 y hy) n (by omega)⟩
theorem light_less (m : Nat) (hm : m ≤ 1000) (k : Nat) (kind : Int) (neg : Bool) (l : List Int) (s : ByteArray) (N : Int) (kids : List S45) (r : Int) (h : relictlaw00_light.f k kind neg l s N kids (m : Int) = some r) : r < (m : Int) := by
  obtain ⟨k0, r0, h0, h1, _⟩ := light_total m kind neg l s N kids hm
  have e1 := lift (f := fun k => relictlaw00_light.f k kind neg l s N kids (m : Int)) (fun k => (relictlaw00_light.mono_l k).1 _ _ _ _ _ _ _) (Nat.le_max_left k k0) h
  have e2 := lift (f := fun k => relictlaw00_light.f k kind neg l s N kids (m : Int)) (fun k => (relictlaw00_light.mono_l k).1 _ _ _ _ _ _ _) (Nat.le_max_right k k0) h0
  have e3 : some r = some r0 := e1.symm.trans e2
  injection e3 with e2
  omega
theorem light_neg (k : Nat) (x1 i : Int) (kind : Int) (neg : Bool) (l : List Int) (s : ByteArray) (N : Int) (kids : List S45) (r : Int) (hx : x1 < 0) (h : relictlaw00_light.l0 k x1 i kind neg l s N kids = some r) : r = x1 := by
  cases k with
  | zero => simp [relictlaw00_light.l0] at h
  | succ k =>
    simp only [relictlaw00_light.l0] at h
    split at h
    · rw [if_neg (by omega)] at h; injection h with h; exact h.symm
    · injection h with h; exact h.symm
theorem lt_of_light : ∀ (m : Nat), m ≤ 1000 → ∀ (k : Nat) (kind : Int) (neg : Bool) (l : List Int) (s : ByteArray) (N : Int) (kids : List S45) (r : Int), relictlaw00_light.f k kind neg l s N kids (m : Int) = some r → 0 ≤ r → Lt m ⟨kind, ⟨neg, l⟩, s, N, kids⟩ := by
  intro m
  induction m using Nat.strongRecOn with
  | ind m ih =>
    intro hm k kind neg l s N kids r h hr
    have hrm := light_less m hm k kind neg l s N kids r h
    obtain ⟨m1, rfl⟩ : ∃ m1, m = m1 + 1 := ⟨m - 1, by omega⟩
    have hw : wrap64 (((m1 + 1 : Nat) : Int) - 1) = (m1 : Int) := by unfold wrap64; omega
    have loop : ∀ (kk : Nat) (x1 : Int) (i : Nat), relictlaw00_light.l0 kk x1 (i : Int) kind neg l s N kids = some r → x1 ≤ (m1 : Int) → (i : Int) + x1 ≤ (m1 : Int) → i ≤ 2000 →
        (kids.drop i).length ≤ x1.toNat ∧ ∀ y, y ∈ kids.drop i → Lt m1 y := by
      intro kk
      induction kk with
      | zero => intro x1 i h; simp [relictlaw00_light.l0] at h
      | succ kk ihk =>
        intro x1 i h h1 hi hi2
        simp only [relictlaw00_light.l0] at h
        by_cases hlt : (i : Int) < (kids.length : Int)
        · rw [if_pos hlt] at h
          by_cases hx : x1 ≥ 0
          · rw [if_pos hx, if_pos (by omega)] at h
            obtain ⟨t, ht, h'⟩ := Option.bind_eq_some_iff.1 h
            replace h' : relictlaw00_light.l0 kk t (wrap64 ((i : Int) + 1)) kind neg l s N kids = some r := h'
            clear h
            obtain ⟨n, rfl⟩ : ∃ n : Nat, x1 = (n : Int) := ⟨x1.toNat, by omega⟩
            have htn := light_less n (by omega) kk _ _ _ _ _ _ t ht
            have hw1 : wrap64 ((i : Int) + 1) = ((i + 1 : Nat) : Int) := by unfold wrap64; omega
            rw [hw1] at h'
            have ht0 : 0 ≤ t := by
              by_cases h0 : 0 ≤ t
              · exact h0
              · have := light_neg kk t _ kind neg l s N kids r (by omega) h'
                omega
            have hy := (ih n (by omega) (by omega) kk _ _ _ _ _ _ t ht ht0).up m1 (by omega)
            obtain ⟨q1, q2⟩ := ihk t (i + 1) h' (by omega) (by omega) (by omega)
            have hi' : i < kids.length := by omega
            have he : rd_T45 kids (i : Int) = kids[i] := by simp [rd_T45, List.getD_eq_getElem?_getD, hi']
            rw [List.drop_eq_getElem_cons hi']
            refine ⟨by rw [List.length_cons]; omega, fun y hy' => ?_⟩
            rcases List.mem_cons.1 hy' with rfl | hy'
            · rw [he, eta45] at hy; exact hy
            · exact q2 y hy'
          · rw [if_neg hx] at h
            injection h with h
            omega
        · rw [List.drop_eq_nil_of_le (by omega)]
          exact ⟨by simp, fun y hy => by simp at hy⟩
    cases k with
    | zero => simp [relictlaw00_light.f] at h
    | succ k =>
      simp only [relictlaw00_light.f] at h
      rw [hw] at h
      have fin : ∀ b, relictlaw00_light.j0 k (m1 : Int) b kind neg l s N kids = some r → b = false ∧ ∃ kk, relictlaw00_light.l0 kk (m1 : Int) 0 kind neg l s N kids = some r := by
        intro b hb
        cases k with
        | zero => simp [relictlaw00_light.j0] at hb
        | succ k =>
          simp only [relictlaw00_light.j0] at hb
          cases b with
          | true => rw [if_pos rfl] at hb; injection hb with hb; omega
          | false => rw [if_neg (by decide)] at hb; exact ⟨rfl, k, hb⟩
      by_cases h40 : (l.length : Int) > 40
      · rw [if_pos h40] at h
        exact absurd (fin true h).1 (by decide)
      · rw [if_neg h40] at h
        obtain ⟨hs, kk, hk⟩ := fin _ h
        have hs' : ¬ (s.size : Int) > 500 := of_decide_eq_false hs
        obtain ⟨q1, q2⟩ := loop kk (m1 : Int) 0 hk (by omega) (by omega) (by omega)
        exact ⟨by show l.length ≤ 40; omega, by show s.size ≤ 500; omega, by show kids.length ≤ m1; simpa using q1, by simpa using q2⟩
theorem lt_of_Light (m : Nat) (hm : m ≤ 1000) (k : Nat) (x : S45) (h : relictlaw00_Light.f k x.f0 x.f1.f0 x.f1.f1 x.f2 x.f3 x.f4 (m : Int) = some true) : Lt m x := by
  unfold relictlaw00_Light.f at h
  obtain ⟨t, ht, h⟩ := Option.bind_eq_some_iff.1 h
  have h0 : 0 ≤ t := by simpa using h
  have := lt_of_light m hm k _ _ _ _ _ _ t ht h0
  rw [eta45] at this
  exact this
/-- A light term is copied whole. -/
theorem term_copy : ∀ (m : Nat), m ≤ 1000 → ∀ x : S45, Lt m x → ∃ k, relictlaw00_Term.f k x.f0 x.f1.f0 x.f1.f1 x.f2 x.f3 x.f4 = some (x.f0, x.f1.f0, x.f1.f1, x.f2, x.f3, x.f4) := by
  intro m
  induction m with
  | zero => intro _ x h; exact h.elim
  | succ m ih =>
    intro hm x h
    obtain ⟨h1, h2, h3, h4⟩ := h
    obtain ⟨kind, ⟨neg, l⟩, s, N, kids⟩ := x
    have loop : ∀ (d i : Nat), i + d = kids.length → ∃ k, relictlaw00_Term.l0 k (i : Int) kind neg l s N kids kind neg l s N (kids.take i) = some (kind, neg, l, s, N, kids) := by
      intro d
      induction d with
      | zero =>
        intro i hi
        refine ⟨1, ?_⟩
        simp only [relictlaw00_Term.l0]
        rw [if_neg (by omega), List.take_of_length_le (by omega)]
      | succ d ihd =>
        intro i hi
        obtain ⟨k2, e2⟩ := ihd (i + 1) (by omega)
        have hi' : i < kids.length := by omega
        have he : rd_T45 kids (i : Int) = kids[i] := by simp [rd_T45, List.getD_eq_getElem?_getD, hi']
        obtain ⟨k1, e1⟩ := ih (by omega) kids[i] (h4 _ (List.getElem_mem hi'))
        have hw1 : wrap64 ((i : Int) + 1) = ((i + 1 : Nat) : Int) := by
          have : kids.length ≤ m := h3
          unfold wrap64; omega
        refine ⟨max k1 k2 + 1, ?_⟩
        simp only [relictlaw00_Term.l0]
        rw [if_pos (by omega), if_pos (by omega), he, lift (f := fun k => relictlaw00_Term.f k (kids[i]).f0 (kids[i]).f1.f0 (kids[i]).f1.f1 (kids[i]).f2 (kids[i]).f3 (kids[i]).f4) (fun k => (relictlaw00_Term.mono_l k).1 _ _ _ _ _ _) (Nat.le_max_left k1 k2) e1, bindS, if_pos (by rw [List.length_take]; have : kids.length ≤ m := h3; omega), hw1]
        have ht : kids.take i ++ [(⟨(kids[i]).f0, ⟨(kids[i]).f1.f0, (kids[i]).f1.f1⟩, (kids[i]).f2, (kids[i]).f3, (kids[i]).f4⟩ : S45)] = kids.take (i + 1) := by
          rw [List.take_succ_eq_append_getElem hi', eta45]
        rw [ht]
        exact lift (f := fun k => relictlaw00_Term.l0 k ((i + 1 : Nat) : Int) kind neg l s N kids kind neg l s N (kids.take (i + 1))) (fun k => (relictlaw00_Term.mono_l k).2 _ _ _ _ _ _ _ _ _ _ _ _ _) (Nat.le_max_right k1 k2) e2
    obtain ⟨k, e⟩ := loop kids.length 0 (by omega)
    refine ⟨k + 1, ?_⟩
    simp only [relictlaw00_Term.f]
    unfold relictlaw00_Num.f relictlaw00_Limbs.f
    have h1' : l.length ≤ 40 := h1
    rw [if_pos (by omega), bindS, bindS]
    exact e
/-- A light term is the same as itself. -/
theorem same_refl : ∀ (m : Nat), m ≤ 1000 → ∀ x : S45, Lt m x → ∃ k, relictlaw00_SameTerm.f k x.f0 x.f1.f0 x.f1.f1 x.f2 x.f3 x.f4 x.f0 x.f1.f0 x.f1.f1 x.f2 x.f3 x.f4 = some true := by
  intro m
  induction m with
  | zero => intro _ x h; exact h.elim
  | succ m ih =>
    intro hm x h
    obtain ⟨h1, h2, h3, h4⟩ := h
    obtain ⟨kind, ⟨neg, l⟩, s, N, kids⟩ := x
    have loop : ∀ (d i : Nat), i + d = kids.length → ∃ k, relictlaw00_SameTerm.l0 k (i : Int) kind neg l s N kids kind neg l s N kids = some true := by
      intro d
      induction d with
      | zero =>
        intro i hi
        refine ⟨1, ?_⟩
        simp only [relictlaw00_SameTerm.l0]
        rw [if_neg (by omega)]
      | succ d ihd =>
        intro i hi
        obtain ⟨k2, e2⟩ := ihd (i + 1) (by omega)
        have hi' : i < kids.length := by omega
        have he : rd_T45 kids (i : Int) = kids[i] := by simp [rd_T45, List.getD_eq_getElem?_getD, hi']
        obtain ⟨k1, e1⟩ := ih (by omega) kids[i] (h4 _ (List.getElem_mem hi'))
        have hw1 : wrap64 ((i : Int) + 1) = ((i + 1 : Nat) : Int) := by
          have : kids.length ≤ m := h3
          unfold wrap64; omega
        refine ⟨max k1 k2 + 1, ?_⟩
        simp only [relictlaw00_SameTerm.l0]
        rw [if_pos (by omega), if_pos (by omega), if_pos (by omega), he, lift (f := fun k => relictlaw00_SameTerm.f k (kids[i]).f0 (kids[i]).f1.f0 (kids[i]).f1.f1 (kids[i]).f2 (kids[i]).f3 (kids[i]).f4 (kids[i]).f0 (kids[i]).f1.f0 (kids[i]).f1.f1 (kids[i]).f2 (kids[i]).f3 (kids[i]).f4) (fun k => (relictlaw00_SameTerm.mono_l k).1 _ _ _ _ _ _ _ _ _ _ _ _) (Nat.le_max_left k1 k2) e1, bindS, if_pos rfl, hw1]
        exact lift (f := fun k => relictlaw00_SameTerm.l0 k ((i + 1 : Nat) : Int) kind neg l s N kids kind neg l s N kids) (fun k => (relictlaw00_SameTerm.mono_l k).2.2 _ _ _ _ _ _ _ _ _ _ _ _ _) (Nat.le_max_right k1 k2) e2
    obtain ⟨k, e⟩ := loop kids.length 0 (by omega)
    have h1' : l.length ≤ 40 := h1
    refine ⟨max (k + 1) 50 + 1, ?_⟩
    simp only [relictlaw00_SameTerm.f]
    rw [if_pos trivial, same_num neg l (by omega) _ (by omega), bindS, if_pos rfl, if_pos trivial, if_pos trivial]
    have e' : relictlaw00_SameTerm.j0 (k + 1) ((kids.length : Int) != (kids.length : Int)) kind neg l s N kids kind neg l s N kids = some true := by
      simp only [relictlaw00_SameTerm.j0]
      rw [if_neg (by simp)]
      exact e
    exact lift (f := fun k => relictlaw00_SameTerm.j0 k ((kids.length : Int) != (kids.length : Int)) kind neg l s N kids kind neg l s N kids) (fun k => (relictlaw00_SameTerm.mono_l k).2.1 _ _ _ _ _ _ _ _ _ _ _ _ _) (Nat.le_max_left (k + 1) 50) e'
end Go.Proofs.YthdmacdeefohkaaTc
namespace Go.Proofs.YthdmacdeefohkaaRv
open Go.RowKit Go.Proofs.YthdmacdeefohkaaW.PrintWords Go.Proofs.YthdmacdeefohkaaW.PrintLast Go.Proofs.YthdmacdeefohkaaW.PrintMore Go.Proofs.YthdmacdeefohkaaMem Go.Proofs.YthdmacdeefohkaaLeaf Go.Proofs.YthdmacdeefohkaaBits Go.Proofs.Ythdmacdeefohkaa.PMa Go.Proofs.YthdmacdeefohkaaMTerm Go.Proofs.YthdmacdeefohkaaMVal Go.Proofs.YthdmacdeefohkaaTc Go.Proofs
set_option linter.unusedVariables false
set_option linter.unusedSimpArgs false
theorem light_calls (m : Nat) (hm : m ≤ 1000) (x : S45) (W : World) {A2 : Option Addr} {c2 : Nat} {A5 : Option Addr} {c5 : Nat} (h : Lies W x A2 c2 A5 c5) :
    Calls Try.prog 38 #[.agg (cellsT x A2 c2 A5 c5), .int .i64 (m : Int)] W fun e w' => ∃ b, e = .returned (.bool b) ∧ (b = true → Lt m x) ∧ Below W.heap.size W w' := by
  obtain ⟨k, r, hr⟩ := Light_total m hm x
  refine (relictlaw00_Light.calls k x.f0 x.f1.f0 A2 c2 x.f1.f1 x.f2 x.f3 A5 c5 x.f4 m r W h.1 h.2.1 h.2.2.1 h.2.2.2 hr).mono ?_
  rintro e w' ⟨rfl, hb⟩
  exact ⟨r, rfl, fun hr' => lt_of_Light m hm k x (by rw [hr, hr']), hb⟩
theorem term_calls (m : Nat) (hm : m ≤ 1000) (x : S45) (hx : Lt m x) (W : World) {A2 : Option Addr} {c2 : Nat} {A5 : Option Addr} {c5 : Nat} (h : Lies W x A2 c2 A5 c5) :
    Calls Try.prog 39 #[.agg (cellsT x A2 c2 A5 c5)] W fun e w' => ∃ B2 d2 B5 d5, e = .returned (.agg (cellsT x B2 d2 B5 d5)) ∧ Lies w' x B2 d2 B5 d5 ∧ k45.M w' W.heap.size (fun _ => True) x (cellsT x B2 d2 B5 d5).toList ∧ Below W.heap.size W w' := by
  obtain ⟨k, hk⟩ := term_copy m hm x hx
  refine (relictlaw00_Term.calls k x.f0 x.f1.f0 A2 c2 x.f1.f1 x.f2 x.f3 A5 c5 x.f4 _ _ _ _ _ _ W h.1 h.2.1 h.2.2.1 h.2.2.2 hk).mono ?_
  rintro e w' ⟨v2, v5, rfl, h2, h5, hb⟩
  obtain ⟨B2, d2, e2, _⟩ := Kd.R_reads h2
  obtain ⟨B5, d5, e5, _⟩ := Kd.R_reads h5
  subst e2 e5
  have hl := lies_of (a := x.f0) (b := x.f1.f0) (s := x.f2) (N := x.f3) h2 h5
  rw [eta45] at hl
  exact ⟨B2, d2, B5, d5, rfl, hl, k45_mkM w' W.heap.size (fun _ => True) x h2 (Kd.R_mono h5 (fun _ _ => trivial)), hb⟩
theorem sameT_calls (m : Nat) (hm : m ≤ 1000) (x : S45) (hx : Lt m x) (W : World) {A2 : Option Addr} {c2 : Nat} {A5 : Option Addr} {c5 : Nat} {B2 : Option Addr} {d2 : Nat} {B5 : Option Addr} {d5 : Nat} (h : Lies W x A2 c2 A5 c5) (h' : Lies W x B2 d2 B5 d5) :
    Calls Try.prog 33 #[.agg (cellsT x A2 c2 A5 c5), .agg (cellsT x B2 d2 B5 d5)] W fun e w' => e = .returned (.bool true) ∧ Below W.heap.size W w' := by
  obtain ⟨k, hk⟩ := same_refl m hm x hx
  exact relictlaw00_SameTerm.calls k x.f0 x.f1.f0 A2 c2 x.f1.f1 x.f2 x.f3 A5 c5 x.f4 x.f0 x.f1.f0 B2 d2 x.f1.f1 x.f2 x.f3 B5 d5 x.f4 true W h.1 h.2.1 h.2.2.1 h.2.2.2 h'.1 h'.2.1 h'.2.2.1 h'.2.2.2 hk
/-- A frame: where it goes back to; its slots. -/
abbrev Frm := Int × List S45
def kFr : Kd Frm := Kd.pair (Kd.int .i64) (Kd.slice 45 k45)
/-- What a machine has in hand. -/
structure RV where
  xs : List S45
  fs : List Frm
  fr : Bool
  back : Int
  pc : Int
  room : Int
/-- The cells of one, and what they lead to. -/
def Rd (w : World) (cs : Array Value) (r : RV) : Prop :=
  cs.size = 101 ∧ r.xs.length = 16 ∧ (∀ i, i < 16 → ∃ A2 c2 A5 c5, Lies w (r.xs.getD i z45) A2 c2 A5 c5 ∧ ∀ j, j < 6 → cs[i * 6 + j]? = (cellsT (r.xs.getD i z45) A2 c2 A5 c5)[j]?) ∧
  (∃ A c, cs[96]? = some (.slice A r.fs.length c) ∧ r.fs.length ≤ c ∧ Kd.C kFr w A r.fs.length r.fs) ∧ cs[97]? = some (.bool r.fr) ∧ cs[98]? = some (.int .i64 r.back) ∧ cs[99]? = some (.int .i64 r.pc) ∧ cs[100]? = some (.int .i64 r.room)
theorem Rd.below {w W : World} {cs : Array Value} {r : RV} (h : Rd w cs r) (hb : Below w.heap.size w W) : Rd W cs r := by
  obtain ⟨h1, h2, h3, ⟨A, c, h4, h5, h6⟩, h7⟩ := h
  refine ⟨h1, h2, fun i hi => ?_, ⟨A, c, h4, h5, Kd.C_below h6 hb⟩, h7⟩
  obtain ⟨A2, c2, A5, c5, q1, q2⟩ := h3 i hi
  exact ⟨A2, c2, A5, c5, q1.below hb, q2⟩
/-- A register, where the cells lie in a block. -/
theorem Rd.reg {w W : World} {cs : Array Value} {r : RV} (h : Rd w cs r) {g : Nat} {t : TypeId} (hg : W.heap[g]? = some (.cells cs t (0, 0))) (i : Nat) (hi : i < 16) : ∃ A2 c2 A5 c5, Lies w (r.xs.getD i z45) A2 c2 A5 c5 ∧
    W.cell? ⟨g, i * 6, none⟩ = some (.int .i64 (r.xs.getD i z45).f0) ∧ W.cell? ⟨g, i * 6 + 1, none⟩ = some (.bool (r.xs.getD i z45).f1.f0) ∧ W.cell? ⟨g, i * 6 + 2, none⟩ = some (.slice A2 (r.xs.getD i z45).f1.f1.length c2) ∧ W.cell? ⟨g, i * 6 + 3, none⟩ = some (.string (r.xs.getD i z45).f2) ∧ W.cell? ⟨g, i * 6 + 4, none⟩ = some (.int .i64 (r.xs.getD i z45).f3) ∧ W.cell? ⟨g, i * 6 + 5, none⟩ = some (.slice A5 (r.xs.getD i z45).f4.length c5) := by
  obtain ⟨A2, c2, A5, c5, q1, q2⟩ := h.2.2.1 i hi
  exact ⟨A2, c2, A5, c5, q1, (blk_cell hg _).trans (q2 0 (by omega)), (blk_cell hg _).trans (q2 1 (by omega)), (blk_cell hg _).trans (q2 2 (by omega)), (blk_cell hg _).trans (q2 3 (by omega)), (blk_cell hg _).trans (q2 4 (by omega)), (blk_cell hg _).trans (q2 5 (by omega))⟩
/-- A frame of a row. -/
theorem fr_at {w : World} {A : Option Addr} {n : Nat} {fs : List Frm} (h : Kd.C kFr w A n fs) (i : Nat) (hi : i < n) : ∃ ad Y c, A = some ad ∧ w.cell? (ad.add (i * 2)) = some (.int .i64 (fs.getD i (0, [])).1) ∧ w.cell? ⟨(ad.add (i * 2)).block, (ad.add (i * 2)).off + 1, none⟩ = some (.slice Y (fs.getD i (0, [])).2.length c) ∧ (fs.getD i (0, [])).2.length ≤ c ∧ Kd.C k45 w Y (fs.getD i (0, [])).2.length (fs.getD i (0, [])).2 := by
  obtain ⟨ad, c, e, _, hK, hc0⟩ := Kd.C_get h (0, []) i (by omega) (by omega)
  rw [Int.toNat_natCast] at hK hc0
  have hc : ∀ j u, c[j]? = some u → w.cell? (ad.add (i * 2 + j)) = some u := hc0
  obtain ⟨c0, c1, rfl, q0, ⟨Y, cy, rfl, q1, q2⟩⟩ := hK
  have q0' : c0 = [.int .i64 (fs.getD i (0, [])).1] := q0
  subst q0'
  exact ⟨ad, Y, cy, e, hc 0 _ rfl, by rw [← add_field _ _ 1 (by omega)]; exact hc 1 _ rfl, q1, q2⟩
/-- A term of a row. -/
theorem tm_at {w : World} {A : Option Addr} {n : Nat} {xs : List S45} (h : Kd.C k45 w A n xs) (i : Nat) (hi : i < n) : ∃ ad A2 c2 A5 c5, A = some ad ∧ Lies w (xs.getD i z45) A2 c2 A5 c5 ∧ w.cell? (ad.add (i * 6)) = some (.int .i64 (xs.getD i z45).f0) ∧ w.cell? ⟨(ad.add (i * 6)).block, (ad.add (i * 6)).off + 1, none⟩ = some (.bool (xs.getD i z45).f1.f0) ∧ w.cell? ⟨(ad.add (i * 6)).block, (ad.add (i * 6)).off + 2, none⟩ = some (.slice A2 (xs.getD i z45).f1.f1.length c2) ∧ w.cell? ⟨(ad.add (i * 6)).block, (ad.add (i * 6)).off + 3, none⟩ = some (.string (xs.getD i z45).f2) ∧ w.cell? ⟨(ad.add (i * 6)).block, (ad.add (i * 6)).off + 4, none⟩ = some (.int .i64 (xs.getD i z45).f3) ∧ w.cell? ⟨(ad.add (i * 6)).block, (ad.add (i * 6)).off + 5, none⟩ = some (.slice A5 (xs.getD i z45).f4.length c5) := by
  obtain ⟨ad, c, e, _, hK, hc0⟩ := Kd.C_get h z45 i (by omega) (by omega)
  rw [Int.toNat_natCast] at hK hc0
  have hc : ∀ j u, c[j]? = some u → w.cell? (ad.add (i * 6 + j)) = some u := hc0
  obtain ⟨A2, c2, A5, c5, rfl, l2, g2, l5, g5⟩ := k45_open hK
  exact ⟨ad, A2, c2, A5, c5, e, ⟨g2, l2, g5, l5⟩, hc 0 _ rfl, by rw [← add_field _ _ 1 (by omega)]; exact hc 1 _ rfl, by rw [← add_field _ _ 2 (by omega)]; exact hc 2 _ rfl, by rw [← add_field _ _ 3 (by omega)]; exact hc 3 _ rfl, by rw [← add_field _ _ 4 (by omega)]; exact hc 4 _ rfl, by rw [← add_field _ _ 5 (by omega)]; exact hc 5 _ rfl⟩
/-- Not too much. -/
def FewR (r : RV) : Prop := r.fs.length ≤ 8 ∧ (∀ i, i < 16 → Lt 40 (r.xs.getD i z45)) ∧ ∀ i, i < r.fs.length → (r.fs.getD i (0, [])).2.length ≤ 20 ∧ ∀ k, k < (r.fs.getD i (0, [])).2.length → Lt 40 ((r.fs.getD i (0, [])).2.getD k z45)
end Go.Proofs.YthdmacdeefohkaaRv
namespace Go.Proofs.YthdmacdeefohkaaFw
open Go.RowKit Go.Proofs.YthdmacdeefohkaaW.PrintWords Go.Proofs.YthdmacdeefohkaaW.PrintLast Go.Proofs.YthdmacdeefohkaaW.PrintMore Go.Proofs.YthdmacdeefohkaaMem Go.Proofs.YthdmacdeefohkaaLeaf Go.Proofs.YthdmacdeefohkaaBits Go.Proofs.Ythdmacdeefohkaa.PMa Go.Proofs.YthdmacdeefohkaaMTerm Go.Proofs.YthdmacdeefohkaaMVal Go.Proofs.YthdmacdeefohkaaTc Go.Proofs.YthdmacdeefohkaaRv Go.Proofs
set_option linter.unusedVariables false
set_option linter.unusedSimpArgs false
def FewPost (r : RV) (w : World) (e : Ending) (w' : World) : Prop := ∃ b, e = .returned (.bool b) ∧ (b = true → FewR r) ∧ Below w.heap.size w w'
set_option maxHeartbeats 4000000 in
set_option maxRecDepth 100000 in
theorem few_calls (w : World) (cs : Array Value) (r : RV) (h : Rd w cs r) : Calls Try.prog 67 #[.agg cs] w (FewPost r w) := by
  have hu45 := Try.underlying45
  have hu92 := Try.underlying92
  have hu67 := Try.underlying67
  have h96 := h.2.2.2.1
  obtain ⟨F, fc, h96, hfc, hF⟩ := h96
  have hmax := Kd.C_max hF
  obtain ⟨W1, hW1⟩ : ∃ W1, w.alloc (.cells cs 92) = W1 := ⟨_, rfl⟩
  have hb : Below w.heap.size w W1 := by rw [← hW1]; exact below_alloc (Below.refl _ _) _
  have hg : W1.heap[w.heap.size]? = some (.cells cs 92 (0, 0)) := by rw [← hW1]; exact heap_alloc_new _ _
  obtain ⟨g, hgg⟩ : ∃ g, w.heap.size = g := ⟨_, rfl⟩
  have HB := Aside0.mk hb
  have HRd := Aside0.mk (h.below hb)
  have HF := Aside0.mk (Kd.C_below hF hb)
  rw [hgg] at hg
  have HG := Aside0.mk hg
  have b0 : W1.cell? ⟨g, 96, none⟩ = some (.slice F r.fs.length fc) := (blk_cell hg 96).trans h96
  have HB0 := Aside0.mk b0
  clear h h96 hF hb hg
  obtain ⟨n, hn⟩ : ∃ n, r.fs.length = n := ⟨_, rfl⟩
  rw [hn] at b0 HB0 HF hfc hmax
  have HN := Aside0.mk hn
  clear hn
  by_cases h8 : n ≤ 8
  · have a1 : ¬ (n : Int) > 8 := by omega
    have a2 : ¬ (8 : Int) < (n : Int) := by omega
    go_enter Try.func67, Try.ntmps67
    go_wp2_with fail
    go_loopg [3] 17 (fun k v3 wr => ∃ i : Nat, v3 = .int .i64 i ∧ i ≤ 16 ∧ k = 17 - i ∧ Aside0 (∀ j, j < i → Lt 40 (r.xs.getD j z45)) ∧ Aside0 (Below W1.heap.size W1 wr))
    case atStart => exact ⟨0, rfl, by omega, rfl, ⟨fun j hj => by omega⟩, ⟨Below.refl _ _⟩⟩
    case round =>
      obtain ⟨i, rfl, hi, rfl, HX, HBr⟩ := hrel
      by_cases hlt : i < 16
      · have b1 : (i : Int) < 16 := by omega
        have hgr := (HBr.out.block g (blk_lt HG.out)).trans HG.out
        obtain ⟨A2, c2, A5, c5, hl, k0, k1, k2, k3, k4, k5⟩ := HRd.out.reg hgr i hlt
        have HC := Aside0.mk (light_calls 40 (by omega) _ wr (hl.below HBr.out))
        clear hgr hl
        unfold cellsT at HC
        obtain ⟨x, hx⟩ : ∃ x, r.xs.getD i z45 = x := ⟨_, rfl⟩
        rw [hx] at HC k0 k1 k2 k3 k4 k5
        have HXX := Aside0.mk hx
        clear hx
        go_wp2_with fail
        refine HC.out.mono ?_
        rintro e w3 ⟨b, rfl, hbL, hb3⟩
        have HBL := Aside0.mk hbL
        have HB3 := Aside0.mk (below_step HBr.out hb3)
        clear hbL hb3 HC k0 k1 k2 k3 k4 k5
        cases b with
        | true =>
          have HX2 := Aside0.mk (show ∀ j, j < i + 1 → Lt 40 (r.xs.getD j z45) from fun j hj => by
            rcases Nat.lt_or_ge j i with h | h
            · exact HX.out j h
            · rw [show j = i by omega, HXX.out]; exact HBL.out rfl)
          go_wp2_with fail
          go_roundg (17 - (i + 1))
          case measure => omega
          case rel => exact ⟨i + 1, by go_num, by omega, rfl, HX2, HB3⟩
        | false =>
          go_wp2_with fail
          go_ret
          exact ⟨false, rfl, (fun h => by cases h), below_then HB.out HB.out.size HB3.out⟩
      · have hie : i = 16 := by omega
        subst hie
        have HXA := Aside0.mk HX.out
        clear HX
        go_wp2_with fail
        have HBW := Aside0.mk (below_then HB.out HB.out.size HBr.out)
        have HG1 := Aside0.mk ((HBr.out.block g (blk_lt HG.out)).trans HG.out)
        have HF1 := Aside0.mk (Kd.C_below HF.out HBr.out)
        have HC1 := Aside0.mk (pw_cell_below HBr.out HB0.out)
        clear HBr HG HF HB0 b0
        go_loopg [4] (n + 1) (fun k v4 wq => ∃ i : Nat, v4 = .int .i64 i ∧ i ≤ n ∧ k = n + 1 - i ∧ Aside0 (∀ j, j < i → (r.fs.getD j (0, [])).2.length ≤ 20 ∧ ∀ q, q < (r.fs.getD j (0, [])).2.length → Lt 40 ((r.fs.getD j (0, [])).2.getD q z45)) ∧ Aside0 (Below wr.heap.size wr wq))
        case atStart => exact ⟨0, rfl, by omega, by omega, ⟨fun j hj => by omega⟩, ⟨Below.refl _ _⟩⟩
        case round =>
          obtain ⟨i, rfl, hi, rfl, HX, HBr⟩ := hrel
          have b0 := pw_cell_below HBr.out HC1.out
          by_cases hlt : i < n
          · have b1 : (i : Int) < (n : Int) := by omega
            obtain ⟨ad, Y, yc, rfl, k0, k1, hyc, hY⟩ := fr_at HF1.out i hlt
            have kk := pw_cell_below HBr.out k1
            have HY := Aside0.mk (Kd.C_below hY HBr.out)
            have hym := Kd.C_max hY
            clear k0 k1 hY
            obtain ⟨ys, hys⟩ : ∃ ys, (r.fs.getD i (0, [])).2 = ys := ⟨_, rfl⟩
            rw [hys] at kk HY hyc hym
            have HYS := Aside0.mk hys
            clear hys
            obtain ⟨yn, hyn⟩ : ∃ yn, ys.length = yn := ⟨_, rfl⟩
            rw [hyn] at kk HY hyc hym
            have HYN := Aside0.mk hyn
            clear hyn
            by_cases h20 : yn ≤ 20
            · have d1 : ¬ (yn : Int) > 20 := by omega
              have d2 : ¬ (20 : Int) < (yn : Int) := by omega
              have HK := Aside0.mk kk
              have HB1 := Aside0.mk b0
              go_wp2_with fail
              clear b0 kk
              obtain ⟨wo, hwo⟩ : ∃ wo, wr = wo := ⟨_, rfl⟩
              go_loopg [5] (yn + 1) (fun k v5 wq => ∃ q : Nat, v5 = .int .i64 q ∧ q ≤ yn ∧ k = yn + 1 - q ∧ Aside0 (∀ j, j < q → Lt 40 (ys.getD j z45)) ∧ Aside0 (Below wr.heap.size wr wq))
              case atStart => exact ⟨0, rfl, by omega, by omega, ⟨fun j hj => by omega⟩, ⟨Below.refl _ _⟩⟩
              case round =>
                subst hwo
                obtain ⟨q, rfl, hq, rfl, HQ, HBq⟩ := hrel
                have b0 := pw_cell_below HBq.out HB1.out
                have kk := pw_cell_below HBq.out HK.out
                by_cases hlq : q < yn
                · have b2 : (q : Int) < (yn : Int) := by omega
                  obtain ⟨ad2, A2, c2, A5, c5, rfl, hl, t0, t1, t2, t3, t4, t5⟩ := tm_at HY.out q hlq
                  have HC := Aside0.mk (light_calls 40 (by omega) _ wr (hl.below HBq.out))
                  unfold cellsT at HC
                  have k0 := pw_cell_below HBq.out t0
                  have k1 := pw_cell_below HBq.out t1
                  have k2 := pw_cell_below HBq.out t2
                  have k3 := pw_cell_below HBq.out t3
                  have k4 := pw_cell_below HBq.out t4
                  have k5 := pw_cell_below HBq.out t5
                  clear hl t0 t1 t2 t3 t4 t5
                  obtain ⟨x, hx⟩ : ∃ x, ys.getD q z45 = x := ⟨_, rfl⟩
                  rw [hx] at HC k0 k1 k2 k3 k4 k5
                  have HXX := Aside0.mk hx
                  clear hx
                  go_wp2_with fail
                  refine HC.out.mono ?_
                  rintro e w3 ⟨b, rfl, hbL, hb3⟩
                  have HBL := Aside0.mk hbL
                  have HB3 := Aside0.mk (below_step HBq.out hb3)
                  clear hbL hb3 HC k0 k1 k2 k3 k4 k5 b0 kk
                  cases b with
                  | true =>
                    have HX2 := Aside0.mk (show ∀ j, j < q + 1 → Lt 40 (ys.getD j z45) from fun j hj => by
                      rcases Nat.lt_or_ge j q with h | h
                      · exact HQ.out j h
                      · rw [show j = q by omega, HXX.out]; exact HBL.out rfl)
                    go_wp2_with fail
                    go_roundg (yn + 1 - (q + 1))
                    case measure => omega
                    case rel => exact ⟨q + 1, by go_num, by omega, rfl, HX2, HB3⟩
                  | false =>
                    go_wp2_with fail
                    go_ret
                    exact ⟨false, rfl, (fun h => by cases h), below_then HBW.out HBW.out.size (below_step HBr.out HB3.out)⟩
                · have hqe : q = yn := by omega
                  subst hqe
                  have b2 : ¬ (q : Int) < (q : Int) := by omega
                  have HX2 := Aside0.mk (show ∀ j, j < i + 1 → (r.fs.getD j (0, [])).2.length ≤ 20 ∧ ∀ q, q < (r.fs.getD j (0, [])).2.length → Lt 40 ((r.fs.getD j (0, [])).2.getD q z45) from fun j hj => by
                    rcases Nat.lt_or_ge j i with h | h
                    · exact HX.out j h
                    · rw [show j = i by omega, HYS.out, HYN.out]; exact ⟨h20, HQ.out⟩)
                  have HB3 := Aside0.mk (below_step HBr.out HBq.out)
                  go_wp2_with fail
                  go_roundg (n + 1 - (i + 1))
                  case measure => omega
                  case rel => exact ⟨i + 1, by go_num, by omega, rfl, HX2, HB3⟩
            · have d1 : (yn : Int) > 20 := by omega
              have d2 : (20 : Int) < (yn : Int) := by omega
              go_wp2_with fail
              go_ret
              exact ⟨false, rfl, (fun h => by cases h), below_then HBW.out HBW.out.size HBr.out⟩
          · have hie : i = n := by omega
            subst hie
            have b1 : ¬ (i : Int) < (i : Int) := by omega
            go_wp2_with fail
            go_ret
            exact ⟨true, rfl, (fun _ => ⟨by rw [HN.out]; exact h8, HXA.out, by rw [HN.out]; exact HX.out⟩), below_then HBW.out HBW.out.size HBr.out⟩
  · have a1 : (n : Int) > 8 := by omega
    have a2 : (8 : Int) < (n : Int) := by omega
    go_enter Try.func67, Try.ntmps67
    go_wp2_with fail
    go_ret
    exact ⟨false, rfl, (fun h => by cases h), HB.out⟩
end Go.Proofs.YthdmacdeefohkaaFw
namespace Go.Proofs.YthdmacdeefohkaaFa
open Go.RowKit Go.Proofs.YthdmacdeefohkaaW.PrintWords Go.Proofs.YthdmacdeefohkaaW.PrintLast Go.Proofs.YthdmacdeefohkaaW.PrintMore Go.Proofs.YthdmacdeefohkaaMem Go.Proofs.YthdmacdeefohkaaLeaf Go.Proofs.YthdmacdeefohkaaBits Go.Proofs
set_option linter.unusedVariables false
set_option linter.unusedSimpArgs false
/-- A row of operands, read so deep. -/
def AR : Nat → World → Option Addr → Nat → Prop
  | 0, _, _, _ => True
  | d + 1, w, A, n => n ≤ 9223372036854775807 ∧ ∀ i, i < n → ∃ ad tg N L l c, A = some ad ∧ w.cell? (ad.add (i * 3)) = some (.int .i64 tg) ∧ w.cell? ⟨(ad.add (i * 3)).block, (ad.add (i * 3)).off + 1, none⟩ = some (.int .i64 N) ∧ w.cell? ⟨(ad.add (i * 3)).block, (ad.add (i * 3)).off + 2, none⟩ = some (.slice L l c) ∧ AR d w L l
theorem AR.below {w W : World} (hb : Below w.heap.size w W) : ∀ {d : Nat} {A : Option Addr} {n : Nat}, AR d w A n → AR d W A n := by
  intro d
  induction d with
  | zero => intro A n h; exact h
  | succ d ih =>
    intro A n h
    refine ⟨h.1, fun i hi => ?_⟩
    obtain ⟨ad, tg, N, L, l, c, e, q0, q1, q2, q3⟩ := h.2 i hi
    exact ⟨ad, tg, N, L, l, c, e, pw_cell_below hb q0, pw_cell_below hb q1, pw_cell_below hb q2, ih q3⟩
def Ends (w : World) (e : Ending) (w' : World) : Prop := ∃ b, e = .returned (.bool b) ∧ Below w.heap.size w w'
set_option maxHeartbeats 4000000 in
set_option maxRecDepth 100000 in
theorem fewArgs_calls : ∀ (d : Nat), d ≤ 1000 → ∀ (w : World) (A : Option Addr) (n c : Nat), AR (d + 1) w A n → Calls Try.prog 68 #[.slice A n c, .int .i64 ((d : Int) - 1)] w (Ends w) := by
  intro d
  induction d with
  | zero =>
    intro _ w A n c h
    by_cases h60 : n ≤ 60
    · have a1 : ¬ (n : Int) > 60 := by omega
      have a2 : ¬ (60 : Int) < (n : Int) := by omega
      go_enter Try.func68, Try.ntmps68
      go_wp2_with fail
      go_ret
      exact ⟨false, rfl, Below.refl _ _⟩
    · have a1 : (n : Int) > 60 := by omega
      have a2 : (60 : Int) < (n : Int) := by omega
      go_enter Try.func68, Try.ntmps68
      go_wp2_with fail
      go_ret
      exact ⟨false, rfl, Below.refl _ _⟩
  | succ d ih =>
    intro hd w A n c h
    have HI := Aside0.mk (ih (by omega))
    have H := Aside0.mk h
    clear ih h
    have ed : (((d + 1 : Nat) : Int) - 1) = (d : Int) := by omega
    rw [ed]
    clear ed
    by_cases h60 : n ≤ 60
    · have a1 : ¬ (n : Int) > 60 := by omega
      have a2 : ¬ (60 : Int) < (n : Int) := by omega
      have a3 : ¬ (d : Int) < 0 := by omega
      go_enter Try.func68, Try.ntmps68
      go_wp2_with fail
      go_loopg [5] (n + 1) (fun k v5 wq => ∃ i : Nat, v5 = .int .i64 i ∧ i ≤ n ∧ k = n + 1 - i ∧ Aside0 (Below w.heap.size w wq))
      case atStart => exact ⟨0, rfl, by omega, by omega, ⟨Below.refl _ _⟩⟩
      case round =>
        obtain ⟨i, rfl, hi, rfl, HB⟩ := hrel
        by_cases hlt : i < n
        · have b1 : (i : Int) < (n : Int) := by omega
          obtain ⟨ad, tg, N, L, l, cl, rfl, q0, q1, q2, q3⟩ := H.out.2 i hlt
          have k2 := pw_cell_below HB.out q2
          have HC := Aside0.mk (HI.out wr L l cl (AR.below HB.out q3))
          clear q0 q1 q2 q3
          by_cases hl : l = 0
          · subst hl
            go_wp2_with fail
            go_roundg (n + 1 - (i + 1))
            case measure => omega
            case rel => exact ⟨i + 1, by go_num, by omega, rfl, HB⟩
          · have b3 : (l : Int) > 0 := by omega
            have b4 : (0 : Int) < (l : Int) := by omega
            go_wp2_with fail
            refine HC.out.mono ?_
            rintro e w3 ⟨b, rfl, hb3⟩
            have HB3 := Aside0.mk (below_step HB.out hb3)
            clear hb3 HC k2
            cases b with
            | true =>
              go_wp2_with fail
              go_roundg (n + 1 - (i + 1))
              case measure => omega
              case rel => exact ⟨i + 1, by go_num, by omega, rfl, HB3⟩
            | false =>
              go_wp2_with fail
              go_ret
              exact ⟨false, rfl, HB3.out⟩
        · have hie : i = n := by omega
          subst hie
          have b1 : ¬ (i : Int) < (i : Int) := by omega
          go_wp2_with fail
          go_ret
          exact ⟨true, rfl, HB.out⟩
    · have a1 : (n : Int) > 60 := by omega
      have a2 : (60 : Int) < (n : Int) := by omega
      go_enter Try.func68, Try.ntmps68
      go_wp2_with fail
      go_ret
      exact ⟨false, rfl, Below.refl _ _⟩
end Go.Proofs.YthdmacdeefohkaaFa
namespace Go.Proofs.YthdmacdeefohkaaTs
open Go.RowKit Go.Proofs.YthdmacdeefohkaaW.PrintWords Go.Proofs.YthdmacdeefohkaaW.PrintLast Go.Proofs.YthdmacdeefohkaaW.PrintMore Go.Proofs.YthdmacdeefohkaaMem Go.Proofs.YthdmacdeefohkaaLeaf Go.Proofs.YthdmacdeefohkaaBits Go.Proofs.Ythdmacdeefohkaa.PMa Go.Proofs.YthdmacdeefohkaaMTerm Go.Proofs.YthdmacdeefohkaaMVal Go.Proofs.YthdmacdeefohkaaTc Go.Proofs.YthdmacdeefohkaaRv Go.Proofs
set_option linter.unusedVariables false
set_option linter.unusedSimpArgs false
theorem terms_mono (l : List S45) (k : Nat) : LeO (relictlaw00_Terms.f k l) (relictlaw00_Terms.f (k + 1) l) := relictlaw00_Terms.mono l k
theorem terms_copy (m : Nat) (hm : m ≤ 1000) (xs : List S45) (hl : xs.length ≤ 1000) (h : ∀ i, i < xs.length → Lt m (xs.getD i z45)) : ∃ k, relictlaw00_Terms.f k xs = some xs := by
  have loop : ∀ (d i : Nat), i + d = xs.length → ∃ k, relictlaw00_Terms.l0 k xs (xs.take i) (i : Int) = some xs := by
    intro d
    induction d with
    | zero =>
      intro i hi
      refine ⟨1, ?_⟩
      simp only [relictlaw00_Terms.l0]
      rw [if_neg (by omega), List.take_of_length_le (by omega)]
    | succ d ihd =>
      intro i hi
      obtain ⟨k2, e2⟩ := ihd (i + 1) (by omega)
      have hi' : i < xs.length := by omega
      have he : rd_T45 xs (i : Int) = xs[i] := by simp [rd_T45, List.getD_eq_getElem?_getD, hi']
      have hx := h i hi'
      have he2 : xs.getD i z45 = xs[i] := by simp [List.getD_eq_getElem?_getD, hi']
      rw [he2] at hx
      obtain ⟨k1, e1⟩ := term_copy m hm xs[i] hx
      have hw1 : wrap64 ((i : Int) + 1) = ((i + 1 : Nat) : Int) := by unfold wrap64; omega
      refine ⟨max k1 k2 + 1, ?_⟩
      simp only [relictlaw00_Terms.l0]
      rw [if_pos (by omega), if_pos (by omega), he, lift (f := fun k => relictlaw00_Term.f k (xs[i]).f0 (xs[i]).f1.f0 (xs[i]).f1.f1 (xs[i]).f2 (xs[i]).f3 (xs[i]).f4) (fun k => (relictlaw00_Term.mono_l k).1 _ _ _ _ _ _) (Nat.le_max_left k1 k2) e1, bindS, if_pos (by rw [List.length_take]; omega), hw1]
      have ht : xs.take i ++ [(⟨(xs[i]).f0, ⟨(xs[i]).f1.f0, (xs[i]).f1.f1⟩, (xs[i]).f2, (xs[i]).f3, (xs[i]).f4⟩ : S45)] = xs.take (i + 1) := by
        rw [List.take_succ_eq_append_getElem hi', eta45]
      rw [ht]
      exact lift (f := fun k => relictlaw00_Terms.l0 k xs (xs.take (i + 1)) ((i + 1 : Nat) : Int)) (fun k => relictlaw00_Terms.mono_l k _ _ _) (Nat.le_max_right k1 k2) e2
  obtain ⟨k, e⟩ := loop xs.length 0 (by omega)
  exact ⟨k, e⟩
theorem terms_calls (m : Nat) (hm : m ≤ 1000) (xs : List S45) (hl : xs.length ≤ 1000) (h : ∀ i, i < xs.length → Lt m (xs.getD i z45)) (w : World) (A : Option Addr) (c : Nat) (hr : Kd.C k45 w A xs.length xs) (hc : xs.length ≤ c) :
    Calls Try.prog 83 #[.slice A xs.length c] w fun e w' => ∃ v, e = .returned v ∧ Kd.R k45 45 w' w.heap.size (fun _ => True) v xs ∧ Below w.heap.size w w' := by
  obtain ⟨k, hk⟩ := terms_copy m hm xs hl h
  exact relictlaw00_Terms.calls k A c xs xs w hr hc hk
end Go.Proofs.YthdmacdeefohkaaTs
