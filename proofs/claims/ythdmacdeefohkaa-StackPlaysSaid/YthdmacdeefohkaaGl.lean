/- The document's stack: Load. -/
import Derived.Test.YthdmacdeefohkaaGt
namespace Go.Proofs.YthdmacdeefohkaaGl
open Go.RowKit Go.Proofs.YthdmacdeefohkaaW.PrintWords Go.Proofs.YthdmacdeefohkaaW.PrintLast Go.Proofs.YthdmacdeefohkaaW.PrintMore Go.Proofs.YthdmacdeefohkaaMem Go.Proofs.YthdmacdeefohkaaRow Go.Proofs.YthdmacdeefohkaaRowK Go.Proofs.YthdmacdeefohkaaBits Go.Proofs.YthdmacdeefohkaaGs Go.Proofs.YthdmacdeefohkaaGt Go.Proofs
open Go.Proofs.YthdmacdeefohkaaStk (W64 info64 bel_alloc bel_drew)
open Go.Proofs.YthdmacdeefohkaaStkT (sumL)
open Go.Proofs.YthdmacdeefohkaaStkB (flatL flatL_append flatL_length loadL loadL_length)
attribute [local go_sem] max2_int min2_int max_two min_two max_three min_three max_four min_four
set_option linter.unusedVariables false
set_option linter.unusedSimpArgs false
/-- A slot of a frame in the midst is set. -/
theorem gs_set {w : World} {B s : Nat} {v : Value} {F1 F2 : List GF} {f : GF} (h : GS B w s v (F1 ++ f :: F2)) {m : Nat} (hm : m < f.y.length) {x : Int} (x0 : 0 ≤ x) (x1 : x < 18446744073709551616) {g c : Nat} (hv : f.v = .slice (some ⟨g, 0, none⟩) f.y.length c) :
    GS B (w.setCell ⟨g, m, none⟩ (.int .u64 x)) s v (F1 ++ { f with y := f.y.set m x } :: F2) ∧ gbs (F1 ++ { f with y := f.y.set m x } :: F2) = gbs (F1 ++ f :: F2) ∧ g ∈ gbs (F1 ++ f :: F2) := by
  obtain ⟨q1, q2, q3, q4, q5, q6, q7⟩ := h
  have hgm : g ∈ gbs (F1 ++ f :: F2) := mem_gbs.2 ⟨f, by simp, by rw [hv]; rfl⟩
  have km : Mods (fun i => i = g) w (w.setCell ⟨g, m, none⟩ (.int .u64 x)) := (Mods.refl (fun i => i = g) w).setCell (p := ⟨g, m, none⟩) (.inl rfl) _
  obtain ⟨hr, hw64, h12⟩ := q4 f (by simp)
  obtain ⟨cur, hcur⟩ : ∃ cur, w.heap[g]? = some (.cells cur 29 (0, 0)) := by
    obtain ⟨g', c', hv', _, _, cur, hcur, _⟩ := hr.some_ (by omega)
    rw [hv] at hv'
    injection hv' with e _ _
    injection e with e
    injection e with e
    subst e
    exact ⟨cur, hcur⟩
  have hgs : s ≠ g := blk_ne q1 hcur (by decide)
  have hrow := q3.ne_type hcur (by decide)
  have hsp : ∀ f' : GF, gbs (F1 ++ f' :: F2) = gbs F1 ++ (gbs [f'] ++ gbs F2) := fun f' => by rw [show F1 ++ f' :: F2 = F1 ++ ([f'] ++ F2) by simp, gbs_append, gbs_append]
  have hgb : gbs (F1 ++ { f with y := f.y.set m x } :: F2) = gbs (F1 ++ f :: F2) := by rw [hsp, hsp]; rfl
  have hfe : ∀ f' : GF, gflat (F1 ++ f' :: F2) = gflat F1 ++ (f'.cells ++ gflat F2) := fun f' => by rw [show F1 ++ f' :: F2 = F1 ++ ([f'] ++ F2) by simp, gflat_append, gflat_append]; simp [gflat]
  have hfl : gflat (F1 ++ { f with y := f.y.set m x } :: F2) = gflat (F1 ++ f :: F2) := by rw [hfe, hfe]; rfl
  have other : ∀ f', f' ∈ F1 ∨ f' ∈ F2 → GOk B (w.setCell ⟨g, m, none⟩ (.int .u64 x)) f' := fun f' hf' => by
    refine (q4 f' (by rcases hf' with h | h <;> simp [h])).mods km (fun i hi e => ?_)
    rw [hsp, List.nodup_append] at q5
    have hgf : g ∈ gbs [f] := mem_gbs.2 ⟨f, by simp, by rw [hv]; rfl⟩
    rcases hf' with hf' | hf'
    · exact q5.2.2 i (mem_gbs.2 ⟨f', hf', hi⟩) g (List.mem_append_left _ hgf) e
    · have h2 := q5.2.1
      rw [List.nodup_append] at h2
      exact h2.2.2 g hgf i (mem_gbs.2 ⟨f', hf', hi⟩) e.symm
  refine ⟨⟨km.blk q1 hgs, q2, ?_, ?_, by rw [hgb]; exact q5, by simpa using q6, Nat.le_trans q7 km.size⟩, hgb, hgm⟩
  · rw [hfl, show (F1 ++ { f with y := f.y.set m x } :: F2).length = (F1 ++ f :: F2).length by simp]
    exact q3.mods km (fun i hi => fun e => hrow (by rw [hi, e]))
  · intro f' hf'
    rcases List.mem_append.1 hf' with hf' | hf'
    · exact other f' (.inl hf')
    · rcases List.mem_cons.1 hf' with rfl | hf'
      · refine ⟨?_, fun z hz => ?_, by simpa using h12⟩
        · have := hr.set_ hv m (.int .u64 x)
          simp only [List.length_set]
          rw [show nums .u64 (f.y.set m x) = (nums .u64 f.y).set m (.int .u64 x) by simp [nums, List.map_set]]
          exact this
        · rcases List.mem_or_eq_of_mem_set hz with hz | rfl
          · exact hw64 z hz
          · exact ⟨x0, x1⟩
      · exact other f' (.inr hf')
theorem GS.mid {w : World} {B s : Nat} {v : Value} {F1 F2 : List GF} {f : GF} (h : GS B w s v (F1 ++ f :: F2)) : ∃ g c, v = .slice (some ⟨g, 0, none⟩) (F1 ++ f :: F2).length c ∧ (F1 ++ f :: F2).length ≤ c ∧ w.cell? ⟨g, F1.length * 2 + 1, none⟩ = some f.v := by
  obtain ⟨g, c, hv, hc, _, c2, _⟩ := h.at_ F1.length (by simp)
  refine ⟨g, c, hv, hc, ?_⟩
  have : (F1 ++ f :: F2)[F1.length]'(by simp) = f := by simp
  rw [this] at c2
  exact c2
theorem loadL_snoc (L : List (Int × List Int)) (b : Int × List Int) : ∀ xs : List Int, loadL (L ++ [b]) xs = loadL L xs ++ [(b.1, (xs.drop (sumL L)).take b.2.length)] := by
  induction L with
  | nil => intro xs; simp [loadL, sumL]
  | cons a L ih =>
    intro xs
    simp only [List.cons_append, loadL]
    rw [ih]
    simp only [sumL, List.map_cons, List.sum_cons, List.drop_drop]
/-- A frame whose first slots are laid. -/
def part (f : GF) (zs : List Int) (k : Nat) : GF := { f with y := zs.take k ++ f.y.drop k }
theorem part_zero (f : GF) (zs : List Int) : part f zs 0 = f := by simp [part]
theorem part_len (f : GF) (zs : List Int) (k : Nat) (hz : f.y.length ≤ zs.length) (hk : k ≤ f.y.length) : (part f zs k).y.length = f.y.length := by simp [part]; omega
theorem part_succ (f : GF) (zs : List Int) (k : Nat) (hz : f.y.length ≤ zs.length) (hk : k < f.y.length) : { part f zs k with y := (part f zs k).y.set k (zs.getD k 0) } = part f zs (k + 1) := by
  simp only [part]
  congr 1
  have e : zs.getD k 0 = zs[k]'(by omega) := by rw [List.getD_eq_getElem?_getD, List.getElem?_eq_getElem (by omega)]; rfl
  rw [List.set_append_right _ _ (by rw [List.length_take]; omega), List.length_take, Nat.min_eq_left (by omega), Nat.sub_self, List.drop_eq_getElem_cons hk, List.set_cons_zero, e, List.take_succ_eq_append_getElem (by omega), List.append_assoc]
  rfl
theorem part_all (f : GF) (zs : List Int) : (part f zs f.y.length).y = zs.take f.y.length := by simp [part]
set_option maxHeartbeats 16000000 in
set_option maxRecDepth 100000 in
theorem load_calls (w : World) (B s : Nat) (v : Value) (fs : List GF) (A0 : Option Addr) (m c0_ : Nat) (xs : List Int) (h : GS B w s v fs) (hr : ReadsInt w .u64 A0 m xs) (hm : m ≤ 100000) (hna : ∀ ad, A0 = some ad → 0 < m → ad.block ∉ gbs fs) (hx : W64 xs) :
    Calls Try.prog 59 #[.pointer (some ⟨s, 0, none⟩), .slice A0 m c0_] w fun e w' => e = .returned (.bool (decide (m = sumL (gab fs)))) ∧ ∃ fs', GS B w' s v fs' ∧ gab fs' = (if m = sumL (gab fs) then loadL (gab fs) xs else gab fs) ∧ gbs fs' = gbs fs ∧ Mods (fun i => i ∈ gbs fs) w w' := by
  have hl := h.2.2.2.2.2.1
  have HW := Aside0.mk (roots_calls w B s v fs h)
  have hY : (flatL (gab fs)).length = sumL (gab fs) := flatL_length _
  have hY2 : sumL (gab fs) ≤ 48000 := by
    have := flat_le fs (fun f hf => (h.2.2.2.1 f hf).2.2)
    omega
  obtain ⟨Y, hYY⟩ : ∃ Y, sumL (gab fs) = Y := ⟨_, rfl⟩
  rw [hYY] at hY hY2 ⊢
  have HYY := Aside0.mk hYY
  have HFL := Aside0.mk hY
  have H := Aside0.mk h
  have HR := Aside0.mk hr
  have HNA := Aside0.mk hna
  have HX := Aside0.mk hx
  obtain ⟨A, c, hv, hc⟩ := h.2.2.1.form
  have c0 := h.c0
  rw [hv] at c0
  have HVV := Aside0.mk hv
  have HC0 := Aside0.mk c0
  clear h hr hna hx hv hYY hY
  go_enter Try.func59, Try.ntmps59
  go_wp2_with fail
  refine HW.out.mono ?_
  rintro e w2 ⟨v2, rfl, ho, hb⟩
  obtain ⟨A2, k2, hv2⟩ := Go.Proofs.YthdmacdeefohkaaGt.own_slice ho
  subst hv2
  rw [HFL.out]
  have HB2 := Aside0.mk hb
  have c02 := pw_cell_below hb c0
  clear ho hb c0 HW
  by_cases hmY : m = Y
  · subst hmY
    go_wp2_with fail
    have HMX : Aside0 (xs.length = m) := ⟨HR.out.1⟩
    go_loopg [5, 6] (fs.length) (fun q v5 v6 wr => ∃ (G : List GF) (i : Nat), q = fs.length - i ∧ i ≤ fs.length ∧ v6 = .int .i64 i ∧ v5 = .int .i64 (sumL (gab (fs.take i)) : Nat) ∧ G.length = i ∧ Aside0 (GS B wr s v (G ++ fs.drop i)) ∧ Aside0 (gab G = loadL (gab (fs.take i)) xs ∧ gbs G = gbs (fs.take i)) ∧ Aside0 (Mods (fun i => i ∈ gbs fs) w wr))
    case atStart => exact ⟨[], 0, by omega, by omega, rfl, by simp [sumL, gab], rfl, ⟨H.out.below HB2.out⟩, ⟨by simp [gab, loadL], by simp [gbs]⟩, ⟨Mods.of_below _ HB2.out⟩⟩
    case round =>
      obtain ⟨G, i, rfl, hi, rfl, rfl, hGl, HG, HGA, HM⟩ := hrel
      have cw := HG.out.c0
      rw [HVV.out] at cw
      by_cases hlt : i < fs.length
      · have b1 : (i : Int) < (fs.length : Int) := by omega
        obtain ⟨f, hf⟩ : ∃ f, fs[i] = f := ⟨_, rfl⟩
        have hdr : fs.drop i = f :: fs.drop (i + 1) := by rw [List.drop_eq_getElem_cons hlt, hf]
        obtain ⟨F2, hF2⟩ : ∃ F2, fs.drop (i + 1) = F2 := ⟨_, rfl⟩
        have htk : fs.take (i + 1) = fs.take i ++ [f] := by rw [List.take_succ_eq_append_getElem hlt, hf]
        have hgt : gab (fs.take (i + 1)) = gab (fs.take i) ++ [(f.back, f.y)] := by rw [htk, gab_last]
        have hsum : sumL (gab (fs.take (i + 1))) = sumL (gab (fs.take i)) + f.y.length := by rw [hgt]; simp [sumL]
        have hle : sumL (gab (fs.take (i + 1))) ≤ m := by
          rw [← HYY.out]
          have e : gab fs = gab (fs.take (i + 1)) ++ gab (fs.drop (i + 1)) := by rw [← gab_append, List.take_append_drop]
          conv => rhs; rw [e]
          simp [sumL]
        obtain ⟨n0, hn0⟩ : ∃ n0, sumL (gab (fs.take i)) = n0 := ⟨_, rfl⟩
        rw [hn0] at hsum
        rw [hdr, hF2] at HG
        rw [hn0]
        have hlen : (G ++ f :: F2).length = fs.length := by rw [List.length_append, List.length_cons, ← hF2, List.length_drop, hGl]; omega
        have HH := Aside0.mk (And.intro hgt (And.intro hsum (And.intro hle (And.intro hn0 (And.intro htk hF2)))))
        have HLEN := Aside0.mk hlen
        have hyl : f.y.length ≤ 12 := (HG.out.2.2.2.1 f (by simp)).2.2
        have HYL := Aside0.mk hyl
        have HZ : Aside0 (f.y.length ≤ (xs.drop n0).length) := ⟨by rw [List.length_drop, HMX.out]; omega⟩
        have HG0 : Aside0 (GS B wr s v (G ++ part f (xs.drop n0) 0 :: F2)) := ⟨by rw [part_zero]; exact HG.out⟩
        clear hdr htk hgt hle hlen hf hn0 HG hyl
        go_wp2_with fail
        go_loopg [5, 7] (f.y.length) (fun q v5 v7 wr => ∃ (j nn : Nat), q = f.y.length - j ∧ j ≤ f.y.length ∧ v7 = .int .i64 j ∧ v5 = .int .i64 (nn : Int) ∧ Aside0 (nn = n0 + j) ∧ Aside0 (GS B wr s v (G ++ part f (xs.drop n0) j :: F2)) ∧ Aside0 (Mods (fun i => i ∈ gbs fs) w wr))
        case atStart => exact ⟨0, n0, by omega, by omega, rfl, rfl, ⟨rfl⟩, HG0, HM⟩
        case round =>
          clear HG0 HM cw
          obtain ⟨j, nn, rfl, hj, rfl, rfl, HNN, HG, HM⟩ := hrel
          have cw := HG.out.c0
          obtain ⟨g, c', hv', hc', c2⟩ := GS.mid HG.out
          have hpl := part_len f (xs.drop n0) j HZ.out hj
          have e1 : (G ++ part f (xs.drop n0) j :: F2).length = fs.length := by have := HLEN.out; simp at this ⊢; exact this
          rw [e1] at hv' hc'
          rw [hv'] at cw
          rw [hGl] at c2
          obtain ⟨Ay, cy, hvy, hcy, hsl⟩ := (HG.out.2.2.2.1 (part f (xs.drop n0) j) (by simp)).slots
          rw [hvy] at c2
          rw [hpl] at c2 hcy hsl
          have HVP := Aside0.mk hv'
          by_cases hlj : j < f.y.length
          · have b2 : (j : Int) < (f.y.length : Int) := by omega
            obtain ⟨g2, rfl, cm, fm⟩ := hsl j hlj
            have hrd := Go.Proofs.YthdmacdeefohkaaSLoad.reads_mods HR.out HM.out (fun ad e hk => HNA.out ad e (by have := HH.out; omega) hk)
            obtain ⟨ad0, eA, hcr⟩ := hrd.2.2 (show 0 < m by have := HH.out; omega)
            have hnm : nn < m := by have h1 := HH.out; have h2 := HNN.out; omega
            have hcx := hcr nn hnm
            subst eA
            obtain ⟨xv, hxv⟩ : ∃ xv, xs.getD nn 0 = xv := ⟨_, rfl⟩
            rw [hxv] at hcx
            have hxb : 0 ≤ xv ∧ xv < 18446744073709551616 := by
              have hlt2 : nn < xs.length := by have h2 := HMX.out; omega
              rw [← hxv, List.getD_eq_getElem?_getD, List.getElem?_eq_getElem hlt2]
              exact HX.out _ (List.getElem_mem hlt2)
            have hset := gs_set HG.out (m := j) (by rw [hpl]; exact hlj) (x := xv) hxb.1 hxb.2 (g := g2) (c := cy) hvy
            have hps := part_succ f (xs.drop n0) j HZ.out hlj
            have hxd : (xs.drop n0).getD j 0 = xv := by rw [← hxv, HNN.out]; simp [List.getD_eq_getElem?_getD]
            rw [hxd] at hps
            rw [hps] at hset
            have hgbs : gbs (G ++ part f (xs.drop n0) j :: F2) = gbs fs := by
              have e1 : gbs (G ++ part f (xs.drop n0) j :: F2) = gbs G ++ (gbs [f] ++ gbs F2) := by
                rw [show G ++ part f (xs.drop n0) j :: F2 = G ++ ([part f (xs.drop n0) j] ++ F2) by simp, gbs_append, gbs_append]; rfl
              rw [e1, HGA.out.2, ← HH.out.2.2.2.2.2]
              conv => rhs; rw [← List.take_append_drop (i + 1) fs, HH.out.2.2.2.2.1, gbs_append, gbs_append, List.append_assoc]
            have hg2 : g2 ∈ gbs fs := by rw [← hgbs]; exact hset.2.2
            have HSET := Aside0.mk hset.1
            have HM2 := Aside0.mk (HM.out.setCell (p := ⟨g2, j, none⟩) (.inl hg2) (.int .u64 xv))
            have b3 : (nn : Int) < (m : Int) := by omega
            have hj12 : j ≤ 12 := by have := HYL.out; omega
            have hn48 : nn ≤ 48000 := by omega
            generalize (part f (xs.drop n0) j).y.getD j 0 = x' at cm
            clear hrd hcr hxv hxb hset hps hxd hgbs hg2 hsl hpl hc' e1 hvy HG HM hv'
            go_wp2_with fail
            go_still_tail 14, (by kernel_rfl)
            go_wp2_with fail
            go_roundg (f.y.length - (j + 1))
            case measure => omega
            case rel => exact ⟨j + 1, nn + 1, rfl, by omega, by go_num, by go_num, ⟨by have := HNN.out; omega⟩, HSET, ⟨HM2.out.drew⟩⟩
          · obtain rfl : j = f.y.length := by omega
            have b2 : ¬ ((f.y.length : Int) < (f.y.length : Int)) := by omega
            have hG2 : G ++ part f (xs.drop n0) f.y.length :: F2 = (G ++ [part f (xs.drop n0) f.y.length]) ++ fs.drop (i + 1) := by rw [HH.out.2.2.2.2.2]; simp
            have hga : gab (G ++ [part f (xs.drop n0) f.y.length]) = loadL (gab (fs.take (i + 1))) xs := by
              rw [gab_last, HGA.out.1, HH.out.1, loadL_snoc, HH.out.2.2.2.1, part_all]
              rfl
            have hgb : gbs (G ++ [part f (xs.drop n0) f.y.length]) = gbs (fs.take (i + 1)) := by rw [gbs_append, HGA.out.2, HH.out.2.2.2.2.1, gbs_append]; rfl
            have HGF : Aside0 (GS B wr s v ((G ++ [part f (xs.drop n0) f.y.length]) ++ fs.drop (i + 1))) := ⟨by rw [← hG2]; exact HG.out⟩
            have HGA2 := Aside0.mk (And.intro hga hgb)
            have hnv : nn = sumL (gab (fs.take (i + 1))) := by rw [HNN.out]; exact HH.out.2.1.symm
            subst hnv
            have hgl2 : (G ++ [part f (xs.drop n0) f.y.length]).length = i + 1 := by simp [hGl]
            have hi40 : i ≤ 4000 := by omega
            clear hG2 hga hgb hsl hpl hvy HG hc' e1
            go_wp2_with fail
            go_roundg (fs.length - (i + 1))
            case measure => omega
            case rel => exact ⟨G ++ [part f (xs.drop n0) f.y.length], i + 1, rfl, by omega, by go_num, by go_num, hgl2, HGF, HGA2, HM⟩
      · obtain rfl : i = fs.length := by omega
        have b1 : ¬ ((fs.length : Int) < (fs.length : Int)) := by omega
        have hfin : GS B wr s v G := by have := HG.out; rwa [List.drop_length, List.append_nil] at this
        have HFIN := Aside0.mk hfin
        have hga := HGA.out
        rw [List.take_length] at hga
        have HGF := Aside0.mk hga
        have hd : decide (m = m) = true := by simp
        clear hfin hga HG HGA
        go_wp2_with fail
        go_ret
        exact ⟨by first | (rw [hd]; done) | (rw [hd]; rfl) | (simp; done), G, HFIN.out, by first | exact HGF.out.1 | (rw [if_pos rfl]; exact HGF.out.1), HGF.out.2, HM.out⟩
  · have b1 : ¬ (m : Int) = (Y : Int) := by omega
    have hd : decide (m = Y) = false := decide_eq_false hmY
    go_wp2_with fail
    go_ret
    exact ⟨by first | (rw [hd]; done) | (rw [hd]; rfl) | (simp [hmY]; done), fs, H.out.below HB2.out, by first | rfl | (rw [if_neg hmY]), rfl, Mods.of_below _ HB2.out⟩
end Go.Proofs.YthdmacdeefohkaaGl
