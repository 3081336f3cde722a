/- The heap: an arena, names of atoms, their numbers in a map. New, Atom, Name. -/
import Derived.Test.YtlifdpfhepamfaaArC
import Derived.Test.YtlifdpfhepamfaaRow
import Derived.Test.YtlifdpfhepamfaaPHe4
import Derived.Maps.OwnSet
import Derived.Maps.OwnOps
import Derived.StringKeys
namespace Go.Proofs.YtlifdpfhepamfaaHp
open Go.RowKit Go.Maps Go.Proofs.YtlifdpfhepamfaaW.PrintWords Go.Proofs.YtlifdpfhepamfaaW.PrintLast Go.Proofs.YtlifdpfhepamfaaW.PrintMore Go.Proofs.YtlifdpfhepamfaaMem Go.Proofs.YtlifdpfhepamfaaBits Go.Proofs.Ytlifdpfhepamfaa.PHe Go.Proofs.YtlifdpfhepamfaaRow Go.Proofs.YtlifdpfhepamfaaAr Go.Proofs
set_option linter.unusedVariables false
set_option linter.unusedSimpArgs false
theorem lawS : Keyed Try.prog 9 := string_keyed Try.underlying9
theorem zeroI (w : World) : (zeroValue 3).run Try.prog w = .ok (.int .i64 0) w := by kernel_rfl
theorem infoS : (Try.prog.info? 9).map (fun i => (i.zero, i.size, i.bytes)) = some (some (.string ⟨#[]⟩), 1, 16) := by kernel_rfl
/-- A name as a key. -/
def klS (s : ByteArray) : Lit := .string s.data.toList
theorem klS_inj {s t : ByteArray} (h : klS s = klS t) : s = t := by
  unfold klS at h
  injection h with h
  have := Array.toList_inj.1 h
  cases s; cases t; simp_all
/-- The number of a name, less one. -/
def ixN : List ByteArray → ByteArray → Nat
  | [], _ => 0
  | t :: ns, s => if t = s then 0 else ixN ns s + 1
theorem ixN_mem : ∀ (ns ms : List ByteArray) (s : ByteArray), s ∈ ns → ixN (ns ++ ms) s = ixN ns s
  | [], _, _, h => by simp at h
  | t :: ns, ms, s, h => by
    simp only [List.cons_append, ixN]
    by_cases e : t = s
    · rw [if_pos e, if_pos e]
    · rw [if_neg e, if_neg e]
      rw [ixN_mem ns ms s]
      rcases List.mem_cons.1 h with h | h
      · exact absurd h.symm e
      · exact h
theorem ixN_not : ∀ (ns ms : List ByteArray) (s : ByteArray), s ∉ ns → ixN (ns ++ ms) s = ns.length + ixN ms s
  | [], _, _, _ => by simp
  | t :: ns, ms, s, h => by
    have h1 : t ≠ s := fun e => h (by simp [e])
    have h2 : s ∉ ns := fun e => h (by simp [e])
    simp only [List.cons_append, ixN, if_neg h1, ixN_not ns ms s h2, List.length_cons]
    omega
theorem ixN_lt : ∀ (ns : List ByteArray) (s : ByteArray), s ∈ ns → ixN ns s < ns.length ∧ ns[ixN ns s]? = some s
  | [], _, h => by simp at h
  | t :: ns, s, h => by
    simp only [ixN]
    by_cases e : t = s
    · rw [if_pos e]; simp [e]
    · rw [if_neg e]
      have h2 : s ∈ ns := by
        rcases List.mem_cons.1 h with h | h
        · exact absurd h.symm e
        · exact h
      have := ixN_lt ns s h2
      simpa using this
def ixOf (ns : List ByteArray) (s : ByteArray) : Nat := ixN ns s + 1
open Classical in
noncomputable def namesA (ns : List ByteArray) (s : ByteArray) : List ByteArray := if s ∈ ns then ns else ns ++ [s]
/-- What the map says. -/
def DN (ns : List ByteArray) (D : DataW Unit) : Prop :=
  IsMap D ∧ ∀ s, (Maps.has D (klS s) = true ↔ s ∈ ns) ∧ (s ∈ ns → D.atKey (klS s) (.lit (.int .i64 0)) = .lit (.int .i64 (ixOf ns s : Nat)))
theorem DN.nil : DN [] (.map []) := ⟨isMap_empty, fun s => ⟨by simp [has_eq], fun h => by simp at h⟩⟩
theorem DN.snoc {ns : List ByteArray} {D : DataW Unit} (h : DN ns D) {s : ByteArray} (hm : s ∉ ns) : DN (ns ++ [s]) (D.put (klS s) (.lit (.int .i64 ((ns.length + 1 : Nat) : Int)))) := by
  have hkey : WideAt.IsKeyLit (klS s) := by unfold klS; trivial
  refine ⟨h.1.put _ _, fun t => ?_⟩
  by_cases e : t = s
  · subst e
    refine ⟨by rw [has_put_same h.1 hkey]; simp, fun _ => ?_⟩
    rw [atKey_put_same h.1 hkey]
    have : ixOf (ns ++ [t]) t = ns.length + 1 := by
      unfold ixOf
      rw [ixN_not _ _ _ hm]
      simp [ixN]
    rw [this]
  · have hne : klS t ≠ klS s := fun q => e (klS_inj q)
    refine ⟨by rw [has_put_other hne, (h.2 t).1]; simp [e], fun hin => ?_⟩
    have hin2 : t ∈ ns := by simpa [e] using hin
    rw [atKey_put_other hne, (h.2 t).2 hin2]
    have : ixOf (ns ++ [s]) t = ixOf ns t := by
      unfold ixOf
      rw [ixN_mem _ _ _ hin2]
    rw [this]
/-- A heap. -/
structure Hp (B : Nat) (w : World) (h g gw m : Nat) (v : Value) (l : List Int) (n : Nat) (ns : List ByteArray) : Prop where
  hb : w.heap[h]? = some (.cells #[.pointer (some ⟨g, 0, none⟩), v, .map (some m)] 55 (0, 0))
  ar : Ar w g gw l n
  row : Row w B 9 1 v ns.length (ns.map Value.string)
  mp : ∃ D, w.ownsMap (H := Unit) Try.prog 9 (plainElem Try.prog 3) m ns.length D ∧ DN ns D
  nd : ns.Nodup
  sz : ∀ s, s ∈ ns → s.size ≤ maxLen
  few : ns.length ≤ 1000000
  lo : B ≤ h ∧ B ≤ g ∧ B ≤ gw ∧ B ≤ m ∧ B ≤ w.heap.size
def SH (h g gw m : Nat) (v : Value) (k : Nat) : Prop := k = h ∨ k = g ∨ k = gw ∨ k = m ∨ some k = v.ownBlock
section
variable {B : Nat} {w w' : World} {h g gw m n : Nat} {v : Value} {l : List Int} {ns : List ByteArray} {S : Nat → Prop}
theorem owns_mods {H : Type} {P : Program} {k : TypeId} {R : Value → Option (DataW H × List MemPlace)} {b n : Nat} {D : DataW H} (ho : w.ownsMap P k R b n D) (hm : Mods S w w') (hn : ¬ S b) : w'.ownsMap P k R b n D := by
  obtain ⟨es, clock, h1, h2⟩ := ho
  exact ⟨es, clock, hm.blk h1 hn, h2⟩
theorem Hp.mods (H : Hp B w h g gw m v l n ns) (k : Mods S w w') (hn : ∀ i, SH h g gw m v i → ¬ S i) : Hp B w' h g gw m v l n ns := by
  obtain ⟨D, h1, h2⟩ := H.mp
  exact ⟨k.blk H.hb (hn h (.inl rfl)), H.ar.mods k (hn g (.inr (.inl rfl))) (hn gw (.inr (.inr (.inl rfl)))), H.row.mods k (fun i hi => hn i (.inr (.inr (.inr (.inr hi.symm))))),
    ⟨D, owns_mods h1 k (hn m (.inr (.inr (.inr (.inl rfl))))), h2⟩, H.nd, H.sz, H.few, H.lo.1, H.lo.2.1, H.lo.2.2.1, H.lo.2.2.2.1, Nat.le_trans H.lo.2.2.2.2 k.size⟩
theorem Hp.below (H : Hp B w h g gw m v l n ns) (k : Below w.heap.size w w') : Hp B w' h g gw m v l n ns := H.mods (Mods.of_below (fun _ => False) k) (fun _ _ => id)
theorem Hp.map_blk (H : Hp B w h g gw m v l n ns) : ∃ es c, w.heap[m]? = some (.map es c) := by
  obtain ⟨D, ⟨es, c, h1, _⟩, _⟩ := H.mp
  exact ⟨es, c, h1⟩
theorem Hp.ne_m (H : Hp B w h g gw m v l n ns) : h ≠ m ∧ g ≠ m ∧ gw ≠ m ∧ some m ≠ v.ownBlock := by
  obtain ⟨es, c, hm⟩ := H.map_blk
  refine ⟨fun e => ?_, fun e => ?_, fun e => ?_, fun e => ?_⟩
  · have := H.hb; rw [e, hm] at this; cases this
  · have := H.ar.1; rw [e, hm] at this; cases this
  · have := H.ar.2.1; rw [e, hm] at this; cases this
  · rcases H.row.2 with ⟨h1, _⟩ | ⟨q, cap, cur, h1, _, h2, _⟩
    · rw [h1] at e; cases e
    · rw [h1] at e
      injection e with e
      have e2 : m = q := e
      rw [← e2, hm] at h2
      cases h2
theorem Hp.ne_h (H : Hp B w h g gw m v l n ns) : h ≠ g ∧ h ≠ gw ∧ some h ≠ v.ownBlock ∧ some g ≠ v.ownBlock ∧ some gw ≠ v.ownBlock :=
  ⟨blk_ne H.hb H.ar.1 (by decide), blk_ne H.hb H.ar.2.1 (by decide), H.row.ne_type H.hb (by decide), H.row.ne_type H.ar.1 (by decide), H.row.ne_type H.ar.2.1 (by decide)⟩
theorem Hp.foot (H : Hp B w h g gw m v l n ns) : ∀ k, SH h g gw m v k → B ≤ k ∧ k < w.heap.size := by
  obtain ⟨es, c, hm⟩ := H.map_blk
  intro k hk
  rcases hk with rfl | rfl | rfl | rfl | hk
  · exact ⟨H.lo.1, blk_lt H.hb⟩
  · exact ⟨H.lo.2.1, H.ar.lt.1⟩
  · exact ⟨H.lo.2.2.1, H.ar.lt.2⟩
  · exact ⟨H.lo.2.2.2.1, blk_lt hm⟩
  · exact H.row.base_ k hk.symm
theorem Hp.cells (H : Hp B w h g gw m v l n ns) : w.cell? ⟨h, 0, none⟩ = some (.pointer (some ⟨g, 0, none⟩)) ∧ w.cell? ⟨h, 1, none⟩ = some v ∧ w.cell? ⟨h, 2, none⟩ = some (.map (some m)) ∧ w.frozen? ⟨h, 1, none⟩ = false :=
  ⟨(blk_cell H.hb 0).trans rfl, (blk_cell H.hb 1).trans rfl, (blk_cell H.hb 2).trans rfl, blk_frozen H.hb 1⟩
end
/-- What a call leaves that may have laid a name. -/
def HpPost (B : Nat) (w w' : World) (h g gw m : Nat) (v : Value) (l : List Int) (n : Nat) (ns : List ByteArray) : Prop :=
  ∃ v', Hp B w' h g gw m v' l n ns ∧ Mods (SH h g gw m v) w w' ∧ (v'.ownBlock = v.ownBlock ∨ ∃ b, v'.ownBlock = some b ∧ w.heap.size ≤ b)
set_option maxHeartbeats 4000000 in
set_option maxRecDepth 100000 in
theorem new_calls (a : Int) (w : World) (B : Nat) (hB : B ≤ w.heap.size) : Calls Try.prog 13 #[.int .i64 a] w fun e w' => ∃ h g gw m, e = .returned (.pointer (some ⟨h, 0, none⟩)) ∧ Hp B w' h g gw m (.slice none 0 0) [] (sizeA a) [] ∧ Below w.heap.size w w' ∧ ∀ k, SH h g gw m (.slice none 0 0) k → w.heap.size ≤ k := by
  have hmm := @run_makeMap Try.prog
  have HC := Aside0.mk (Go.Proofs.YtlifdpfhepamfaaAr.new_calls a w)
  obtain ⟨g, hg⟩ : ∃ g, w.heap.size + 1 = g := ⟨_, rfl⟩
  rw [hg] at HC
  go_enter Try.func13, Try.ntmps13
  go_wp2_with fail
  refine HC.out.mono ?_
  rintro e w1 ⟨rfl, ha, hb⟩
  have HA := Aside0.mk ha
  have HB1 := Aside0.mk hb
  clear ha hb HC
  go_wp2_with fail
  go_ret
  have hsz := HB1.out.size
  have hsz2 : w.heap.size + 2 ≤ w1.heap.size := by have := HA.out.lt.1; omega
  refine ⟨w1.heap.size + 1, g, w.heap.size, w1.heap.size, by first | rfl | (simp; done), ⟨?_, ?_, ⟨by simp, .inl ⟨rfl, rfl⟩⟩, ⟨.map [], ?_, DN.nil⟩, by simp, by simp, by simp, by omega, by omega, by omega, by omega, by simp; omega⟩, ?_, ?_⟩
  · exact blk_new2 _ _ _
  · exact (HA.out.below (below_alloc (below_alloc (Below.refl _ _) _) _))
  · exact (World.ownsMap_made w1 Try.prog _ _).alloc _
  · exact below_alloc (below_alloc HB1.out _) _
  · intro k hk
    rcases hk with rfl | rfl | rfl | rfl | hk
    · omega
    · omega
    · omega
    · omega
    · cases hk
/-- The word of a name's number. -/
def atomW (i : Nat) : Int := (if (i : Int) ≤ 1099511627776 then (i : Int) else 1099511627776) * 16 + 7
theorem atomW_eq (i : Nat) : word_AtomOf.f (i : Int) = some (atomW i) := by
  have h1 : word_cut.f (i : Int) = some (if (i : Int) ≤ 1099511627776 then (i : Int) else 1099511627776) := by
    unfold word_cut.f mx mn
    congr 1
    split <;> split <;> omega
  unfold word_AtomOf.f
  rw [h1, bindS]
  obtain ⟨c, hc⟩ : ∃ c, (if (i : Int) ≤ 1099511627776 then (i : Int) else 1099511627776) = c := ⟨_, rfl⟩
  have hcb : 0 ≤ c ∧ c ≤ 1099511627776 := by rw [← hc]; split <;> omega
  have h2 : word_now.f 1 c = some (c * 16 + 7) := by
    unfold word_now.f
    rw [wrap_u64, wrap_u64, wrap_u64]
    rw [show (1 : Int) % 18446744073709551616 * 4 % 18446744073709551616 = 4 from rfl, show c * 16 % 18446744073709551616 = c * 16 by omega]
    rw [or_join 4 (c * 16) 4 (by omega) (by omega) (by omega) (by omega) (by omega) (by omega), or_join 2 (c * 16 + 4) 3 (by omega) (by omega) (by omega) (by omega) (by omega) (by omega)]
    congr 1
    omega
  unfold atomW
  rw [hc]
  rw [h2, bindS]
theorem Hp.names_lt {B : Nat} {w : World} {h g gw m : Nat} {v : Value} {l : List Int} {n : Nat} {ns : List ByteArray} (H : Hp B w h g gw m v l n ns) (i : Nat) (hi : i < ns.length) : ∃ q c, v = .slice (some ⟨q, 0, none⟩) ns.length c ∧ w.cell? ⟨q, i, none⟩ = some (.string (ns.getD i ⟨#[]⟩)) := by
  obtain ⟨q, c, hv, _⟩ := H.row.some_ (by omega)
  refine ⟨q, c, hv, H.row.cell hv i _ ?_⟩
  rw [List.getElem?_map, List.getElem?_eq_getElem hi, List.getD_eq_getElem?_getD, List.getElem?_eq_getElem hi]
  rfl
/-- One name more. -/
theorem Hp.more {B : Nat} {w w1 w2 : World} {h g gw m : Nat} {v v' : Value} {l : List Int} {n : Nat} {ns : List ByteArray} {s : ByteArray} (H : Hp B w h g gw m v l n ns) (hs : s ∉ ns) (hsz : s.size ≤ maxLen) (hf : ns.length + 1 ≤ 1000000)
    (hg1 : Mods (fun k => some k = v.ownBlock) w w1) (hr : Row w1 B 9 1 v' (ns.length + 1) (ns.map Value.string ++ [.string s])) (hat : v'.ownBlock = v.ownBlock ∨ ∃ b, v'.ownBlock = some b ∧ w.heap.size ≤ b)
    (hm2 : ∃ D, w2.ownsMap (H := Unit) Try.prog 9 (plainElem Try.prog 3) m (ns.length + 1) (D.put (klS s) (.lit (.int .i64 ((ns.length + 1 : Nat) : Int)))) ∧ DN ns D) (hg2 : (w1.setCell ⟨h, 1, none⟩ v').grownBy w2 (some m)) :
    Hp B w2 h g gw m v' l n (ns ++ [s]) ∧ Mods (SH h g gw m v) w w2 := by
  obtain ⟨n1, n2, n3, n4, n5⟩ := H.ne_h
  obtain ⟨m1, m2, m3, m4⟩ := H.ne_m
  have hb1 : w1.heap[h]? = some (.cells #[.pointer (some ⟨g, 0, none⟩), v, .map (some m)] 55 (0, 0)) := hg1.blk H.hb (fun e => n3 e)
  have hb2 : (w1.setCell ⟨h, 1, none⟩ v').heap[h]? = some (.cells #[.pointer (some ⟨g, 0, none⟩), v', .map (some m)] 55 (0, 0)) := blk_put hb1 1 v' rfl
  have M2 : Mods (fun k => k = m) (w1.setCell ⟨h, 1, none⟩ v') w2 := (Mods.of_grown hg2).mono (fun k hk => by injection hk)
  have M1 : Mods (fun k => k = h ∨ some k = v.ownBlock) w (w1.setCell ⟨h, 1, none⟩ v') := (hg1.mono (fun k hk => .inr hk)).setCell (.inl (.inl rfl)) _
  have MS : Mods (SH h g gw m v) w w2 := (M1.mono (fun k hk => by rcases hk with hk | hk; exact .inl hk; exact .inr (.inr (.inr (.inr hk))))).trans (M2.mono (fun k hk => .inr (.inr (.inr (.inl hk)))))
  obtain ⟨es, cl, hmb⟩ := H.map_blk
  have hmlt := blk_lt hmb
  obtain ⟨D, hD1, hD2⟩ := hm2
  have hrs : Row (w1.setCell ⟨h, 1, none⟩ v') B 9 1 v' (ns.length + 1) (ns.map Value.string ++ [.string s]) := by
    have hne : some h ≠ v'.ownBlock := hr.ne_type hb1 (by decide)
    exact hr.mods ((Mods.refl (fun k => k = h) w1).setCell (.inl rfl) _) (fun i hi e => hne (by rw [hi, e]))
  refine ⟨⟨M2.blk hb2 m1, (H.ar.mods M1 (by rintro (e | e); exact n1 e.symm; exact n4 e) (by rintro (e | e); exact n2 e.symm; exact n5 e)).mods M2 m2 m3, ?_, ⟨_, by simpa using hD1, hD2.snoc hs⟩, ?_, ?_, by simpa using hf, H.lo.1, H.lo.2.1, H.lo.2.2.1, H.lo.2.2.2.1, Nat.le_trans H.lo.2.2.2.2 MS.size⟩, MS⟩
  · have hne : v'.ownBlock ≠ some m := by
      rcases hat with e | ⟨b, e, hb⟩
      · rw [e]; exact fun q => m4 q.symm
      · rw [e]; intro q; injection q with q; omega
    have q := hrs.mods M2 (fun i hi e => hne (by rw [hi, e]))
    simpa using q
  · rw [List.nodup_append]
    exact ⟨H.nd, by simp, by intro a ha b hb; simp at hb; subst hb; exact fun e => hs (e ▸ ha)⟩
  · intro t ht
    rcases List.mem_append.1 ht with ht | ht
    · exact H.sz t ht
    · simp at ht; subst ht; exact hsz
/-- Between the append and the map's store. -/
theorem atom_mid {B : Nat} {w W1 w2 : World} {h g gw m : Nat} {A A2 : Option Addr} {cc cc2 : Nat} {l : List Int} {n : Nat} {ns : List ByteArray} {s : ByteArray} {D : DataW Unit} (H : Hp B W1 h g gw m (.slice A ns.length cc) l n ns)
    (hb : Below w.heap.size w W1) (hlt : m < w.heap.size) (hown : w.ownsMap (H := Unit) Try.prog 9 (plainElem Try.prog 3) m ns.length D)
    (hr : Row w2 B 9 1 (.slice A2 (ns.length + 1) cc2) (ns.length + 1) (ns.map Value.string ++ [.string s])) (hg : W1.grownBy w2 (Value.slice A ns.length cc).ownBlock) :
    (w2.cell? ⟨h, 1, none⟩ = some (.slice A ns.length cc) ∧ w2.frozen? ⟨h, 1, none⟩ = false) ∧
    (w2.setCell ⟨h, 1, none⟩ (.slice A2 (ns.length + 1) cc2)).cell? ⟨h, 1, none⟩ = some (.slice A2 (ns.length + 1) cc2) ∧ (w2.setCell ⟨h, 1, none⟩ (.slice A2 (ns.length + 1) cc2)).cell? ⟨h, 2, none⟩ = some (.map (some m)) ∧
      Aside0 ((w2.setCell ⟨h, 1, none⟩ (.slice A2 (ns.length + 1) cc2)).ownsMap (H := Unit) Try.prog 9 (plainElem Try.prog 3) m ns.length D) := by
  obtain ⟨n1, n2, n3, n4, n5⟩ := H.ne_h
  obtain ⟨m1, m2, m3, m4⟩ := H.ne_m
  have hb1 : w2.heap[h]? = some (.cells #[.pointer (some ⟨g, 0, none⟩), .slice A ns.length cc, .map (some m)] 55 (0, 0)) := (Mods.of_grown hg).blk H.hb (fun e => n3 e)
  have hb2 : (w2.setCell ⟨h, 1, none⟩ (.slice A2 (ns.length + 1) cc2)).heap[h]? = some (.cells #[.pointer (some ⟨g, 0, none⟩), .slice A2 (ns.length + 1) cc2, .map (some m)] 55 (0, 0)) := blk_put hb1 1 _ rfl
  refine ⟨⟨(blk_cell hb1 1).trans rfl, blk_frozen hb1 1⟩, (blk_cell hb2 1).trans rfl, (blk_cell hb2 2).trans rfl, ⟨?_⟩⟩
  have o1 := owns_mods hown (Mods.of_below (fun _ => False) hb) id
  have o2 := owns_mods o1 (Mods.of_grown hg) (fun e => m4 e)
  exact owns_mods o2 ((Mods.refl (fun k => k = h) w2).setCell (.inl rfl) _) (fun e => m1 e.symm)
set_option maxHeartbeats 4000000 in
set_option maxRecDepth 100000 in
theorem atom_calls (w : World) (B h g gw m : Nat) (v : Value) (l : List Int) (n : Nat) (ns : List ByteArray) (s : ByteArray) (H : Hp B w h g gw m v l n ns) (hsz : s.size ≤ maxLen) (hf : ns.length + 1 ≤ 1000000) :
    Calls Try.prog 14 #[.pointer (some ⟨h, 0, none⟩), .string s] w fun e w' => e = .returned (.int .u64 (atomW (ixOf (namesA ns s) s))) ∧ HpPost B w w' h g gw m v l n (namesA ns s) := by
  have hkey : keyOf Try.prog 9 (.string s) = some (klS s) := WideMaps.keyOf_string_mk Try.underlying9 hsz
  obtain ⟨D, hown, hD⟩ := H.mp
  obtain ⟨c0, c1, c2, f1⟩ := H.cells
  have HH := Aside0.mk H
  by_cases hin : s ∈ ns
  · have hna : namesA ns s = ns := by unfold namesA; rw [if_pos hin]
    have hhas : Maps.has D (klS s) = true := ((hD.2 s).1).2 hin
    have hatk := (hD.2 s).2 hin
    rw [hna]
    have HA := Aside0.mk (fun W => word_AtomOf.calls (ixOf ns s : Int) _ W (atomW_eq _))
    have HOWN := Aside0.mk hown
    clear H hD hown hna
    generalize ixOf ns s = ix at hatk HA ⊢
    go_enter Try.func14, Try.ntmps14
    go_wp2_with (at_lookup; refine wpList_lookup_own_ok_int _ rfl _ _ 53 rfl 9 3 .i64 lawS Try.underlying53 Try.underlying3 (zeroI _) m ns.length D rfl HOWN.out _ _ rfl hkey ?_; intro c hat hwc)
    have hc : c = (ix : Int) := by
      rw [hatk] at hat
      injection hat with hat
      injection hat with _ hat
      exact hat.symm
    subst hc
    refine (HA.out _).mono ?_
    rintro e w1 ⟨rfl, hb⟩
    have HB1 := Aside0.mk hb
    clear hb hat hatk
    go_wp2_with fail
    go_ret
    exact ⟨rfl, v, HH.out.below HB1.out, Mods.of_below _ HB1.out, .inl rfl⟩
  · have hna : namesA ns s = ns ++ [s] := by unfold namesA; rw [if_neg hin]
    have hix : ixOf (ns ++ [s]) s = ns.length + 1 := by unfold ixOf; rw [ixN_not _ _ _ hin]; simp [ixN]
    have hhas : Maps.has D (klS s) = false := by
      cases hq : Maps.has D (klS s) with
      | false => rfl
      | true => exact absurd (((hD.2 s).1).1 hq) hin
    rw [hna, hix]
    have hat1 : word_AtomOf.f ((ns.length : Int) + 1) = some (atomW (ns.length + 1)) := by have q := atomW_eq (ns.length + 1); rw [Int.natCast_add] at q; exact q
    have HA := Aside0.mk (fun W => word_AtomOf.calls ((ns.length : Int) + 1) _ W hat1)
    clear hat1
    have HOWN := Aside0.mk hown
    have HDN := Aside0.mk hD
    obtain ⟨i0, hi, hz0, hz1, hz2⟩ := info_parts infoS
    have HI := Aside0.mk (And.intro hi (And.intro hz0 (And.intro hz1 hz2)))
    obtain ⟨A, cc, hv, hcc⟩ := H.row.form
    subst hv
    have HNM := Aside0.mk H.ne_m
    have HNH := Aside0.mk H.ne_h
    have HLO := Aside0.mk H.lo
    have HIN := Aside0.mk hin
    have HMLT := Aside0.mk (show m < w.heap.size from (H.foot m (.inr (.inr (.inr (.inl rfl))))).2)
    obtain ⟨W1, hW1⟩ : ∃ W1, w.alloc (.cells #[.string s] 9) = W1 := ⟨_, rfl⟩
    have hb1 : Below w.heap.size w W1 := by rw [← hW1]; exact below_alloc (Below.refl _ _) _
    have hn1 : W1.heap[w.heap.size]? = some (.cells #[.string s] 9 (0, 0)) := by rw [← hW1]; exact heap_alloc_new _ _
    have HH1 := Aside0.mk (H.below hb1)
    have HB1 := Aside0.mk hb1
    have HN1 := Aside0.mk hn1
    obtain ⟨d0, d1, d2, e1⟩ := HH1.out.cells
    clear H hD hown hna hix hi hz0 hz1 hz2 hb1 hn1
    go_enter Try.func14, Try.ntmps14
    go_wp2_with (first
      | (at_lookup; refine wpList_lookup_own_ok_int _ rfl _ _ 53 rfl 9 3 .i64 lawS Try.underlying53 Try.underlying3 (zeroI _) m ns.length D rfl HOWN.out _ _ rfl hkey ?_; intro c hat hwc)
      | (at_builtin; refine wp_append_row rfl (.tmp 22) (.tmp 24) 22 rfl B 9 i0 (.string ⟨#[]⟩) 1 16 Try.underlying22 HI.out.1 HI.out.2.1 HI.out.2.2.1 HI.out.2.2.2 rfl (by omega) _ ns.length (ns.map Value.string) rfl HH1.out.row ⟨w.heap.size, 0, none⟩ 1 1 [.string s] rfl rfl (fun j u hj => by rw [add_plain, blk_cell HN1.out]; simpa using hj) (by intro u hu; simp at hu; subst hu; rfl) (by unfold maxLen; omega) (by omega) (by have := HLO.out.2.2.2.2; have := HB1.out.size; omega) ?_; intro A2 cc2 w2 hrow2 hg2 hat2; have HR2 := Aside0.mk (atom_mid HH1.out HB1.out HMLT.out HOWN.out hrow2 hg2); obtain ⟨e1, e2⟩ := HR2.out.1; obtain ⟨W3, hW3⟩ : ∃ W3, w2.setCell ⟨h, 1, none⟩ (.slice A2 (ns.length + 1) cc2) = W3 := ⟨_, rfl⟩; have HR3 := Aside0.mk (show _ from hW3 ▸ HR2.out.2); obtain ⟨e3, e4, HOWN3⟩ := HR3.out; have HROW2 := Aside0.mk hrow2; have HG2 := Aside0.mk hg2; have HAT2 := Aside0.mk hat2; clear hrow2 hg2 hat2)
      | (at_mapUpdate; refine wpList_mapUpdate_own _ rfl _ _ _ 53 rfl 9 3 lawS Try.underlying53 _ m ns.length D rfl HOWN3.out (by unfold maxLen; omega) _ _ _ rfl rfl hkey _ [] (plainElem_int Try.underlying3 (WalkArith.wf_i64 (n := (ns.length : Int) + 1) ⟨by omega, by omega⟩)) ?_; intro w4 hown4 hg4))
    have HW4 : Aside0 (Hp B w4 h g gw m (.slice A2 (ns.length + 1) cc2) l n (ns ++ [s]) ∧ Mods (SH h g gw m (.slice A ns.length cc)) w w4) := ⟨by
      have q := HH1.out.more HIN.out hsz hf (Mods.of_grown HG2.out) HROW2.out HAT2.out ⟨D, by rw [Int.natCast_add]; exact hown4, HDN.out⟩ (by rw [hW3]; exact hg4)
      exact ⟨q.1, (Mods.of_below _ HB1.out).trans q.2⟩⟩
    have HAT4 : Aside0 ((Value.slice A2 (ns.length + 1) cc2).ownBlock = (Value.slice A ns.length cc).ownBlock ∨ ∃ b, (Value.slice A2 (ns.length + 1) cc2).ownBlock = some b ∧ w.heap.size ≤ b) := ⟨by
      rcases HAT2.out with q | ⟨b, q, hb⟩
      · exact .inl q
      · exact .inr ⟨b, q, Nat.le_trans HB1.out.size hb⟩⟩
    clear hown4 hg4
    refine (HA.out _).mono ?_
    rintro e w5 ⟨rfl, hb⟩
    have HB5 := Aside0.mk hb
    clear hb
    go_wp2_with fail
    go_ret
    exact ⟨rfl, _, HW4.out.1.below HB5.out, HW4.out.2.then_below HB5.out, HAT4.out⟩
/-- A name by its number. -/
def nameOf (ns : List ByteArray) (k : Int) : ByteArray × Bool := if k < 1 ∨ (ns.length : Int) < k then (⟨#[]⟩, false) else (ns.getD (k.toNat - 1) ⟨#[]⟩, true)
set_option maxHeartbeats 4000000 in
set_option maxRecDepth 100000 in
theorem name_calls (w : World) (B h g gw m : Nat) (v : Value) (l : List Int) (n : Nat) (ns : List ByteArray) (k : Int) (H : Hp B w h g gw m v l n ns) :
    Calls Try.prog 15 #[.pointer (some ⟨h, 0, none⟩), .int .i64 k] w fun e w' => e = .returned (.tuple #[.string (nameOf ns k).1, .bool (nameOf ns k).2]) ∧ Below w.heap.size w w' := by
  obtain ⟨c0, c1, c2, f1⟩ := H.cells
  have hfew := H.few
  have HH := Aside0.mk H
  by_cases h1 : k < 1
  · have e1 : nameOf ns k = (⟨#[]⟩, false) := by unfold nameOf; rw [if_pos (.inl h1)]
    obtain ⟨A, cc, hv, hcc⟩ := H.row.form
    subst hv
    rw [e1]
    clear H e1
    go_enter Try.func15, Try.ntmps15
    go_wp2_with fail
    go_ret2
    exact ⟨rfl, Below.refl _ _⟩
  · by_cases h2 : (ns.length : Int) < k
    · have e1 : nameOf ns k = (⟨#[]⟩, false) := by unfold nameOf; rw [if_pos (.inr h2)]
      have h3 : k > (ns.length : Int) := h2
      obtain ⟨A, cc, hv, hcc⟩ := H.row.form
      subst hv
      rw [e1]
      clear H e1
      go_enter Try.func15, Try.ntmps15
      go_wp2_with fail
      go_ret2
      exact ⟨rfl, Below.refl _ _⟩
    · obtain ⟨i, rfl⟩ : ∃ i : Nat, k = (i : Int) + 1 := ⟨(k - 1).toNat, by omega⟩
      have e1 : nameOf ns ((i : Int) + 1) = (ns.getD i ⟨#[]⟩, true) := by
        unfold nameOf
        rw [if_neg (by omega), show ((i : Int) + 1).toNat - 1 = i by omega]
      have e2 : wrap64 ((i : Int) + 1 - 1) = (i : Int) := by unfold wrap64; omega
      have e3 : (i : Int) + 1 - 1 = (i : Int) := by omega
      obtain ⟨q, cc, hv, hc⟩ := H.names_lt i (by omega)
      subst hv
      rw [e1]
      generalize ns.getD i ⟨#[]⟩ = s at hc ⊢
      clear H e1
      have h3 : (i : Int) < (ns.length : Int) := by omega
      go_enter Try.func15, Try.ntmps15
      go_wp2_with fail
      go_ret2
      exact ⟨rfl, Below.refl _ _⟩
end Go.Proofs.YtlifdpfhepamfaaHp
