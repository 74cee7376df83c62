/- Layer 13 (window): the plain law of an owner's ticks, of a config that Good may make. -/
import Derived.Test.YtcebmgndniejcaaDoorWhM
import Derived.Test.YtcebmgndniejcaaDoorGc
set_option linter.unusedVariables false
set_option linter.unusedSimpArgs false
namespace Go.Proofs.YtcebmgndniejcaaDoor.Wn
open Go Go.RowKit Go.Shelf Go.Proofs.YtcebmgndniejcaaDoorW.PrintWords Go.Proofs.YtcebmgndniejcaaDoorW.PrintLast Go.Proofs.YtcebmgndniejcaaDoorW.PrintMore Go.Proofs.YtcebmgndniejcaaDoor.Cz Go.Proofs.YtcebmgndniejcaaDoor.PBoundWaits Go.Proofs.YtcebmgndniejcaaDoor.Cf Go.Proofs.YtcebmgndniejcaaDoor.Sat
/-! Rising rows. -/
theorem cnt_cons (q a : Int) (l : List Int) : cnt q (a :: l) = (if a < q then 1 else 0) + cnt q l := by
  unfold cnt
  rw [List.filter_cons]
  by_cases h : a < q
  · simp [h]; omega
  · simp [h]
theorem cnt_none {q : Int} {l : List Int} (h : ∀ x ∈ l, q ≤ x) : cnt q l = 0 := by
  unfold cnt
  rw [List.filter_eq_nil_iff.2 (fun x hx => by have := h x hx; simp; omega)]
  rfl
theorem cnt_at : ∀ {l : List Int} (h : l.Pairwise (· < ·)) {i : Nat} (hi : i < l.length), cnt l[i] l = i
  | [], _, i, hi => absurd hi (Nat.not_lt_zero _)
  | a :: t, h, 0, _ => by
    have h1 := List.pairwise_cons.1 h
    rw [cnt_cons, List.getElem_cons_zero, if_neg (by omega), cnt_none (fun x hx => Int.le_of_lt (h1.1 x hx))]
  | a :: t, h, i + 1, hi => by
    have h1 := List.pairwise_cons.1 h
    have hi' : i < t.length := Nat.lt_of_succ_lt_succ hi
    rw [cnt_cons, List.getElem_cons_succ, if_pos (h1.1 _ (List.getElem_mem hi')), cnt_at h1.2 hi']
    omega
theorem cnt_get {l : List Int} (h : l.Pairwise (· < ·)) {p : Int} (hp : p ∈ l) : l[cnt p l]? = some p := by
  obtain ⟨i, hi, rfl⟩ := List.getElem_of_mem hp
  rw [cnt_at h hi]
  exact List.getElem?_eq_getElem hi
theorem cnt_succ : ∀ {l : List Int} (h : l.Pairwise (· < ·)) (q : Int), cnt (q + 1) l = cnt q l + (if q ∈ l then 1 else 0)
  | [], _, q => rfl
  | a :: t, h, q => by
    have h1 := List.pairwise_cons.1 h
    have h2 := cnt_succ h1.2 q
    rw [cnt_cons, cnt_cons, h2]
    by_cases he : a = q
    · subst he
      have hn : a ∉ t := fun hm => by have := h1.1 a hm; omega
      rw [if_neg hn, if_pos (show a < a + 1 by omega), if_neg (show ¬ a < a by omega), if_pos (List.mem_cons_self ..)]
      omega
    · have hm : (q ∈ a :: t) ↔ q ∈ t := ⟨fun h => by
        rcases List.mem_cons.1 h with h | h
        · exact absurd h.symm he
        · exact h, fun h => List.mem_cons_of_mem _ h⟩
      have h3 : (if q ∈ a :: t then 1 else 0 : Nat) = if q ∈ t then 1 else 0 := by
        by_cases hq : q ∈ t
        · rw [if_pos hq, if_pos (hm.2 hq)]
        · rw [if_neg hq, if_neg (fun h => hq (hm.1 h))]
      rw [h3]
      by_cases hlt : a < q
      · rw [if_pos (by omega), if_pos hlt]; omega
      · rw [if_neg (by omega), if_neg hlt]; omega
theorem find_min : ∀ {l : List Int} (h : l.Pairwise (· < ·)) {ph p : Int}, l.find? (fun q => decide (ph ≤ q)) = some p → p ∈ l ∧ ph ≤ p ∧ ∀ q ∈ l, ph ≤ q → p ≤ q
  | [], _, ph, p, hf => by cases hf
  | a :: t, h, ph, p, hf => by
    have h1 := List.pairwise_cons.1 h
    by_cases ha : ph ≤ a
    · have : a = p := by
        have h2 : List.find? (fun q => decide (ph ≤ q)) (a :: t) = some a := List.find?_cons_of_pos (by simpa using ha)
        rw [h2] at hf
        exact Option.some.inj hf
      subst this
      refine ⟨List.mem_cons_self .., ha, fun q hq _ => ?_⟩
      rcases List.mem_cons.1 hq with rfl | hq
      · exact Int.le_refl _
      · exact Int.le_of_lt (h1.1 q hq)
    · rw [List.find?_cons_of_neg (by simpa using ha)] at hf
      have h2 := find_min h1.2 hf
      refine ⟨List.mem_cons_of_mem _ h2.1, h2.2.1, fun q hq hp => ?_⟩
      rcases List.mem_cons.1 hq with rfl | hq
      · exact absurd hp ha
      · exact h2.2.2 q hq hp
theorem fst_min {l : List Int} (h : l.Pairwise (· < ·)) (hne : l ≠ []) : fstO l ∈ l ∧ ∀ q ∈ l, fstO l ≤ q := by
  cases l with
  | nil => exact absurd rfl hne
  | cons a t =>
    have h1 := List.pairwise_cons.1 h
    refine ⟨List.mem_cons_self .., fun q hq => ?_⟩
    show a ≤ q
    rcases List.mem_cons.1 hq with rfl | hq
    · exact Int.le_refl _
    · exact Int.le_of_lt (h1.1 q hq)
/-! The windows of a config that may be. -/
theorem chain_all {p : Int} : ∀ {en : Int} {l : List S41}, chain p en l → ∀ x ∈ l, (-1 ≤ x.f0 ∧ x.f0 ≤ p - 1) ∧ 1 ≤ x.f2 ∧ en ≤ x.f1
  | en, [], _, x, hx => by cases hx
  | en, y :: t, h, x, hx => by
    rcases List.mem_cons.1 hx with rfl | hx
    · exact h.1
    · have h1 := chain_all h.2 x hx
      have h2 := h.1
      exact ⟨h1.1, h1.2.1, by omega⟩
theorem atW_iff {p : Int} : ∀ {en : Int} {l : List S41}, chain p en l → ∀ {q o : Int}, atW q l = some o ↔ ∃ x ∈ l, x.f0 = o ∧ x.f1 ≤ q ∧ q < x.f1 + x.f2
  | en, [], _, q, o => ⟨fun h => (by cases h), fun ⟨x, hx, _⟩ => (by cases hx)⟩
  | en, y :: t, h, q, o => by
    have hs : atW q (y :: t) = if y.f1 ≤ q ∧ q < y.f1 + y.f2 then some y.f0 else atW q t := rfl
    rw [hs]
    by_cases hy : y.f1 ≤ q ∧ q < y.f1 + y.f2
    · rw [if_pos hy]
      constructor
      · intro he
        exact ⟨y, List.mem_cons_self .., Option.some.inj he, hy.1, hy.2⟩
      · rintro ⟨x, hx, he, h1, h2⟩
        rcases List.mem_cons.1 hx with rfl | hx
        · rw [he]
        · have := chain_all h.2 x hx
          omega
    · rw [if_neg hy, atW_iff h.2]
      constructor
      · rintro ⟨x, hx, h1⟩
        exact ⟨x, List.mem_cons_of_mem _ hx, h1⟩
      · rintro ⟨x, hx, he, h1, h2⟩
        rcases List.mem_cons.1 hx with rfl | hx
        · exact absurd ⟨h1, h2⟩ hy
        · exact ⟨x, hx, he, h1, h2⟩
theorem phW_iff {o : Int} {x : S41} {q : Int} : q ∈ phW o x ↔ x.f0 = o ∧ x.f1 ≤ q ∧ q < x.f1 + x.f2 := by
  refine ⟨phW_mem, fun ⟨h, h1, h2⟩ => ?_⟩
  unfold phW
  rw [if_pos h]
  exact List.mem_map.2 ⟨(q - x.f1).toNat, List.mem_range.2 (by omega), by omega⟩
theorem phW_rise (o : Int) (x : S41) : (phW o x).Pairwise (· < ·) := by
  unfold phW
  split
  · rw [List.pairwise_map]
    exact List.pairwise_lt_range.imp (fun h => by omega)
  · exact List.Pairwise.nil
theorem flat_rise {p o : Int} : ∀ {en : Int} {l : List S41}, chain p en l → (l.flatMap (phW o)).Pairwise (· < ·)
  | en, [], _ => List.Pairwise.nil
  | en, y :: t, h => by
    rw [List.flatMap_cons, List.pairwise_append]
    refine ⟨phW_rise o y, flat_rise h.2, fun a ha b hb => ?_⟩
    obtain ⟨x, hx, hb⟩ := List.mem_flatMap.1 hb
    have h1 := phW_mem ha
    have h2 := phW_mem hb
    have h3 := chain_all h.2 x hx
    omega
section
variable {G : Cfg} (h : GoodC G)
include h
theorem good_ok : okB G = true := by
  unfold okB
  rw [h.chk]
  rfl
theorem good_phs (o : Int) : phs G o = G.ws.flatMap (phW o) := by
  unfold phs
  rw [if_pos (good_ok h)]
theorem good_rise (o : Int) : (phs G o).Pairwise (· < ·) := by
  rw [good_phs h]
  exact flat_rise h.c
theorem good_mem {o q : Int} : q ∈ phs G o ↔ atW q G.ws = some o := by
  rw [good_phs h, atW_iff h.c, List.mem_flatMap]
  constructor
  · rintro ⟨x, hx, hq⟩
    exact ⟨x, hx, phW_mem hq⟩
  · rintro ⟨x, hx, hq⟩
    exact ⟨x, hx, phW_iff.2 hq⟩
theorem good_bd {o q : Int} (hq : q ∈ phs G o) : 0 ≤ q ∧ q < G.f := by
  have _hh := h
  exact (phs_mem hq).2
theorem good_phase {t : Int} (h0 : 0 ≤ t) (h1 : t ≤ 1000000000) : phase G t = t % G.f := by
  unfold phase
  rw [cut_in h0 (by omega), fr_in h.f.1 h.f.2]
theorem good_who {t : Int} (h0 : 0 ≤ t) (h1 : t ≤ 1000000000) : whoN G t = atW (t % G.f) G.ws := by
  unfold whoN
  rw [if_pos (good_ok h), good_phase h h0 h1]
theorem good_who_iff {t o : Int} (h0 : 0 ≤ t) (h1 : t ≤ 1000000000) : whoN G t = some o ↔ t % G.f ∈ phs G o := by
  rw [good_who h h0 h1, good_mem h]
theorem good_own {t o : Int} (hw : whoN G t = some o) : -1 ≤ o ∧ o ≤ G.p - 1 := by
  unfold whoN at hw
  rw [if_pos (good_ok h)] at hw
  obtain ⟨x, hx, he, _⟩ := (atW_iff h.c).1 hw
  have := chain_all h.c x hx
  omega
theorem good_count_bd (o : Int) : 0 ≤ countN G o ∧ countN G o ≤ 512 := by
  have _hh := h
  rw [countN_len]
  have := phs_small G o
  omega
theorem tmul_in {a b : Int} (ha0 : 0 ≤ a) (ha : a ≤ 1000000000) (hb0 : 0 ≤ b) (hb : b ≤ 1000) : tmul a b = a * b := by
  have _hh := h
  unfold tmul
  rw [cut_in ha0 (by omega), cut_in hb0 (by omega)]
  have h1 := Int.mul_nonneg ha0 hb0
  have h2 : a * b ≤ 1000000000 * 1000 := Int.mul_le_mul ha hb hb0 (by omega)
  exact cut_in h1 (by omega)
theorem tadd_in {a b : Int} (ha0 : 0 ≤ a) (ha : a ≤ 2000000000000) (hb0 : 0 ≤ b) (hb : b ≤ 2000000000000) : tadd a b = a + b := by
  have _hh := h
  unfold tadd
  rw [cut_in ha0 (by omega), cut_in hb0 (by omega), cut_in (by omega) (by omega)]
theorem good_before {t o : Int} (h0 : 0 ≤ t) (h1 : t ≤ 1000000000) : beforeN G o t = t / G.f * countN G o + cnt (t % G.f) (phs G o) := by
  have hc := good_count_bd h o
  have hn := cnt_le (t % G.f) (phs G o)
  have hl := phs_small G o
  have hf := h.f
  have hd0 : 0 ≤ t / G.f := Int.ediv_nonneg h0 (by omega)
  have hd1 : t / G.f ≤ 1000000000 := Int.le_trans (Int.ediv_le_self _ h0) h1
  have hm0 := Int.mul_nonneg hd0 hc.1
  have hm1 : t / G.f * countN G o ≤ 1000000000 * 1000 := Int.mul_le_mul hd1 (by omega) hc.1 (by omega)
  unfold beforeN belowN
  rw [good_phase h h0 h1, cut_in h0 (by omega), fr_in h.f.1 h.f.2, tmul_in h hd0 hd1 hc.1 (by omega), tadd_in h hm0 (by omega) (by omega) (by omega)]
/-- One tick on. -/
theorem good_step {t o : Int} (h0 : 0 ≤ t) (h1 : t < 1000000000) : beforeN G o (t + 1) = beforeN G o t + (if whoN G t = some o then 1 else 0) := by
  have hf := h.f
  rw [good_before h (by omega) (by omega), good_before h h0 (by omega)]
  have hi : (if whoN G t = some o then 1 else 0 : Int) = ((if t % G.f ∈ phs G o then 1 else 0 : Nat) : Int) := by
    by_cases hw : t % G.f ∈ phs G o
    · rw [if_pos hw, if_pos ((good_who_iff h h0 (by omega)).2 hw)]; rfl
    · rw [if_neg hw, if_neg (fun e => hw ((good_who_iff h h0 (by omega)).1 e))]; rfl
  rw [hi]
  have hs := cnt_succ (good_rise h o) (t % G.f)
  have hb0 := Int.emod_nonneg t (show G.f ≠ 0 by omega)
  have hb1 := Int.emod_lt_of_pos t (show 0 < G.f by omega)
  have he := Int.emod_add_mul_ediv t G.f
  by_cases hl : t % G.f + 1 < G.f
  · have hm : (t + 1) % G.f = t % G.f + 1 := by
      rw [Int.add_emod, show (1 : Int) % G.f = 1 from Int.emod_eq_of_lt (by omega) (by omega), Int.emod_eq_of_lt (by omega) hl]
    have hd : (t + 1) / G.f = t / G.f := by
      rw [Int.ediv_eq_iff_of_pos (by omega)]
      rw [Int.mul_comm] at he
      constructor
      · omega
      · omega
    rw [hm, hd, hs]
    omega
  · have hq : t % G.f = G.f - 1 := by omega
    have hd : (t + 1) / G.f = t / G.f + 1 := by
      rw [Int.ediv_eq_iff_of_pos (by omega)]
      rw [Int.mul_comm] at he
      rw [Int.add_mul, Int.one_mul]
      constructor
      · omega
      · omega
    have hm : (t + 1) % G.f = 0 := by
      have := Int.emod_add_mul_ediv (t + 1) G.f
      rw [hd, Int.mul_add] at this
      omega
    have ha : cnt (t % G.f + 1) (phs G o) = (phs G o).length := cnt_all (fun p hp => by have := good_bd h hp; omega)
    have hz : cnt 0 (phs G o) = 0 := cnt_none (fun p hp => (good_bd h hp).1)
    rw [hm, hd, hz, Int.add_mul, countN_len, show (1 : Int) * ((phs G o).length : Int) = ((phs G o).length : Int) from Int.one_mul _]
    omega
theorem good_zero (o : Int) : beforeN G o 0 = 0 := by
  rw [good_before h (Int.le_refl _) (by omega), Int.zero_ediv, Int.zero_emod, Int.zero_mul, cnt_none (fun p hp => (good_bd h hp).1)]
  rfl
theorem good_frame_before {t o : Int} (h0 : 0 ≤ t) (h1 : t ≤ 900000000) : beforeN G o (t + G.f) = beforeN G o t + countN G o := by
  have hf := h.f
  rw [good_before h (by omega) (by omega), good_before h h0 (by omega), Int.add_emod_right, Int.add_ediv_of_dvd_right (Int.dvd_refl _), Int.ediv_self (by omega), Int.add_mul, Int.one_mul]
  omega
theorem good_frame_who {t : Int} (h0 : 0 ≤ t) (h1 : t ≤ 900000000) : whoN G (t + G.f) = whoN G t := by
  have hf := h.f
  rw [good_who h (by omega) (by omega), good_who h h0 (by omega), Int.add_emod_right]
theorem tnext_in {t p : Int} (h0 : 0 ≤ t) (h1 : t ≤ 1000000000) (hp : 0 ≤ p ∧ p < G.f) : tnext t G.f p = t + gap t G.f p := by
  have hf := h.f
  have hg := gap_bd (c := t) hf.1 hp.1 hp.2
  unfold tnext
  rw [cut_in h0 (by omega), tadd_in h h0 (by omega) hg.1 (by omega)]
/-- The next one of an owner that has one. -/
theorem good_until {t o : Int} (h0 : 0 ≤ t) (h1 : t ≤ 900000000) (hc : countN G o ≠ 0) : ∃ p, p ∈ phs G o ∧ untilN G o t = t + gap t G.f p ∧ untilN G o (t + G.f) = t + G.f + gap t G.f p ∧ ∀ j, 0 ≤ j → j < gap t G.f p → (t + j) % G.f ∉ phs G o := by
  have hf := h.f
  have hb0 := Int.emod_nonneg t (show G.f ≠ 0 by omega)
  have hb1 := Int.emod_lt_of_pos t (show 0 < G.f by omega)
  have hne : phs G o ≠ [] := fun e => hc (by rw [countN_len, e]; rfl)
  have hgap : ∀ p, gap (t + G.f) G.f p = gap t G.f p := fun p => by unfold gap; rw [Int.add_emod_right]
  have hmod : ∀ j, 0 ≤ j → j < G.f → (t + j) % G.f = if t % G.f + j < G.f then t % G.f + j else t % G.f + j - G.f := fun j j0 j1 => by
    rw [Int.add_emod, show j % G.f = j from Int.emod_eq_of_lt j0 j1]
    split
    · exact Int.emod_eq_of_lt (by omega) (by omega)
    · exact emod_once (by omega) (by omega)
  unfold untilN
  rw [good_phase h h0 (by omega), good_phase h (t := t + G.f) (by omega) (by omega), Int.add_emod_right]
  cases hfi : (phs G o).find? (fun q => decide (t % G.f ≤ q)) with
  | some p =>
    obtain ⟨hm, hle, hmin⟩ := find_min (good_rise h o) hfi
    have hpb := good_bd h hm
    refine ⟨p, hm, tnext_in h h0 (by omega) hpb, ?_, fun j j0 j1 hj => ?_⟩
    · show tnext (t + G.f) G.f p = _
      rw [tnext_in h (by omega) (by omega) hpb, hgap]
    · have hg : gap t G.f p = p - t % G.f := by unfold gap; rw [if_neg (by omega)]
      rw [hmod j j0 (by omega), if_pos (by omega)] at hj
      have := hmin _ hj (by omega)
      omega
  | none =>
    have hall : ∀ q ∈ phs G o, q < t % G.f := fun q hq => by
      have := List.find?_eq_none.1 hfi q hq
      simpa using this
    obtain ⟨hm, hmin⟩ := fst_min (good_rise h o) hne
    have hpb := good_bd h hm
    have hlt := hall _ hm
    refine ⟨fstO (phs G o), hm, ?_, ?_, fun j j0 j1 hj => ?_⟩
    · show (if _ then _ else _) = _
      rw [if_neg (by omega), tnext_in h h0 (by omega) hpb]
    · show (if _ then _ else _) = _
      rw [if_neg (by omega), tnext_in h (by omega) (by omega) hpb, hgap]
    · have hg : gap t G.f (fstO (phs G o)) = fstO (phs G o) - t % G.f + G.f := by unfold gap; rw [if_pos (by omega)]
      rw [hmod j j0 (by omega)] at hj
      split at hj
      · have := hall _ hj
        omega
      · have := hmin _ hj
        omega
theorem good_until_no {t o : Int} (hc : countN G o = 0) : untilN G o t = -1 := by
  have _hh := h
  have hne : phs G o = [] := by
    rw [countN_len] at hc
    exact List.length_eq_zero_iff.1 (by omega)
  unfold untilN
  rw [hne]
  rfl
theorem good_nth_no {m o : Int} (hc : countN G o = 0) : nthN G o m = -1 := by
  have _hh := h
  unfold nthN
  rw [if_pos hc]
/-- The n-th one has n ahead of it. -/
theorem good_nth {m o : Int} (h0 : 0 ≤ m) (h1 : m ≤ 10000000) (hc : countN G o ≠ 0) : (0 ≤ nthN G o m ∧ nthN G o m ≤ 900000000) ∧ whoN G (nthN G o m) = some o ∧ beforeN G o (nthN G o m) = m := by
  have hf := h.f
  have hcb := good_count_bd h o
  have hcl := countN_len G o
  have hb0 := Int.emod_nonneg m (show countN G o ≠ 0 by omega)
  have hb1 := Int.emod_lt_of_pos m (show 0 < countN G o by omega)
  have hi : (m % countN G o).toNat < (phs G o).length := by omega
  have hm := List.getElem_mem hi
  have hpb := good_bd h hm
  have hd0 : 0 ≤ m / countN G o := Int.ediv_nonneg h0 (by omega)
  have hd1 : m / countN G o ≤ 10000000 := Int.le_trans (Int.ediv_le_self _ h0) h1
  have hn : nthN G o m = m / countN G o * G.f + (phs G o)[(m % countN G o).toNat] := by
    unfold nthN
    rw [if_neg hc, cut_in h0 (by omega), List.getElem?_eq_getElem hi]
    show tadd _ _ = _
    have k1 := Int.mul_nonneg hd0 (show 0 ≤ G.f by omega)
    have k2 : m / countN G o * G.f ≤ 10000000 * 1000 := Int.mul_le_mul hd1 (by omega) (by omega) (by omega)
    rw [tmul_in h hd0 (by omega) (by omega) (by omega), tadd_in h k1 (by omega) (by omega) (by omega)]
  have hat := cnt_at (good_rise h o) hi
  generalize (phs G o)[(m % countN G o).toNat] = p at hn hm hpb hat
  have k1 := Int.mul_nonneg hd0 (show 0 ≤ G.f by omega)
  have k2 : m / countN G o * G.f ≤ 10000000 * 64 := Int.mul_le_mul hd1 (by omega) (by omega) (by omega)
  have hmo : nthN G o m % G.f = p := by
    rw [hn, Int.add_comm, Int.add_mul_emod_self_right, Int.emod_eq_of_lt hpb.1 hpb.2]
  have hdi : nthN G o m / G.f = m / countN G o := by
    rw [hn, Int.add_comm, Int.add_mul_ediv_right _ _ (by omega), Int.ediv_eq_zero_of_lt hpb.1 hpb.2, Int.zero_add]
  have hr : 0 ≤ nthN G o m ∧ nthN G o m ≤ 900000000 := by rw [hn]; omega
  refine ⟨hr, ?_, ?_⟩
  · rw [good_who_iff h hr.1 (by omega), hmo]
    exact hm
  · rw [good_before h hr.1 (by omega), hmo, hdi, hat]
    have := Int.emod_add_mul_ediv m (countN G o)
    rw [Int.mul_comm] at this
    omega
/-- A tick is the n-th one if n are ahead of it. -/
theorem good_nth_at {t o : Int} (h0 : 0 ≤ t) (h1 : t ≤ 10000) (hw : whoN G t = some o) : nthN G o (beforeN G o t) = t := by
  have hf := h.f
  have hm := (good_who_iff h h0 (by omega)).1 hw
  have hcb := good_count_bd h o
  have hcl := countN_len G o
  have hg := cnt_get (good_rise h o) hm
  have hlt : cnt (t % G.f) (phs G o) < (phs G o).length := by
    rcases Nat.lt_or_ge (cnt (t % G.f) (phs G o)) (phs G o).length with hl | hl
    · exact hl
    · rw [List.getElem?_eq_none hl] at hg
      cases hg
  have hb := good_before h (o := o) h0 (show t ≤ 1000000000 by omega)
  have hd0 : 0 ≤ t / G.f := Int.ediv_nonneg h0 (by omega)
  have hd1 : t / G.f ≤ 10000 := Int.le_trans (Int.ediv_le_self _ h0) h1
  have hmo : beforeN G o t % countN G o = cnt (t % G.f) (phs G o) := by
    rw [hb, Int.add_comm, Int.add_mul_emod_self_right, Int.emod_eq_of_lt (by omega) (by omega)]
  have hdi : beforeN G o t / countN G o = t / G.f := by
    rw [hb, Int.add_comm, Int.add_mul_ediv_right _ _ (by omega), Int.ediv_eq_zero_of_lt (by omega) (by omega), Int.zero_add]
  have k1 := Int.mul_nonneg hd0 hcb.1
  have k2 : t / G.f * countN G o ≤ 10000 * 512 := Int.mul_le_mul hd1 (by omega) hcb.1 (by omega)
  unfold nthN
  rw [if_neg (by omega), cut_in (by omega) (by omega), hmo, hdi, show ((cnt (t % G.f) (phs G o) : Nat) : Int).toNat = cnt (t % G.f) (phs G o) from Int.toNat_natCast _, hg]
  show tadd _ _ = _
  have hb0 := Int.emod_nonneg t (show G.f ≠ 0 by omega)
  have hb1 := Int.emod_lt_of_pos t (show 0 < G.f by omega)
  have k3 := Int.mul_nonneg hd0 (show 0 ≤ G.f by omega)
  have k4 : t / G.f * G.f ≤ 10000 * 64 := Int.mul_le_mul hd1 (by omega) (by omega) (by omega)
  rw [tmul_in h hd0 (by omega) (by omega) (by omega), tadd_in h k3 (by omega) hb0 (by omega)]
  have := Int.emod_add_mul_ediv t G.f
  rw [Int.mul_comm] at this
  omega
theorem good_far : countN G G.p = 0 := by
  rw [countN_len]
  have : phs G G.p = [] := by
    rw [List.eq_nil_iff_forall_not_mem]
    intro q hq
    obtain ⟨x, hx, he, _⟩ := (atW_iff h.c).1 ((good_mem h).1 hq)
    have := chain_all h.c x hx
    omega
  rw [this]
  rfl
end
/-! All owners. -/
def sumO (g : Int → Int) : Nat → Int
  | 0 => 0
  | n + 1 => sumO g n + g ((n : Int) - 1)
theorem sumO_add (g k : Int → Int) : ∀ n, sumO (fun o => g o + k o) n = sumO g n + sumO k n
  | 0 => rfl
  | n + 1 => by
    show sumO (fun o => g o + k o) n + (g _ + k _) = sumO g n + g _ + (sumO k n + k _)
    rw [sumO_add g k n]
    omega
theorem sumO_congr {g k : Int → Int} (h : ∀ o, g o = k o) (n : Nat) : sumO g n = sumO k n := by
  rw [show g = k from funext h]
theorem sumO_one (a : Option Int) : ∀ n, sumO (fun o => if a = some o then 1 else 0) n = match a with | some v => (if -1 ≤ v ∧ v ≤ (n : Int) - 2 then 1 else 0) | none => 0
  | 0 => by
    cases a with
    | none => rfl
    | some v => show (0 : Int) = if -1 ≤ v ∧ v ≤ ((0 : Nat) : Int) - 2 then 1 else 0; rw [if_neg (by omega)]
  | n + 1 => by
    show sumO _ n + _ = _
    rw [sumO_one a n]
    cases a with
    | none => rfl
    | some v =>
      show (if -1 ≤ v ∧ v ≤ (n : Int) - 2 then 1 else 0 : Int) + (if some v = some ((n : Int) - 1) then 1 else 0) = if -1 ≤ v ∧ v ≤ ((n + 1 : Nat) : Int) - 2 then 1 else 0
      by_cases hv : v = (n : Int) - 1
      · subst hv
        rw [if_neg (by omega), if_pos rfl, if_pos (by omega)]
        rfl
      · rw [if_neg (fun e => hv (Option.some.inj e)), Int.add_zero]
        by_cases hr : -1 ≤ v ∧ v ≤ (n : Int) - 2
        · rw [if_pos hr, if_pos (by omega)]
        · rw [if_neg hr, if_neg (by omega)]
theorem sumO_bd {g : Int → Int} (h : ∀ o, 0 ≤ g o ∧ g o ≤ 512) : ∀ n, 0 ≤ sumO g n ∧ sumO g n ≤ n * 512
  | 0 => ⟨Int.le_refl _, Int.le_refl _⟩
  | n + 1 => by
    have h1 := sumO_bd h n
    have h2 := h ((n : Int) - 1)
    show 0 ≤ sumO g n + g _ ∧ sumO g n + g _ ≤ _
    constructor
    · omega
    · rw [Int.natCast_add, Int.add_mul]; omega
/-- Ticks of all owners below one. -/
def allO (G : Cfg) (t : Int) : Int := sumO (fun o => beforeN G o t) (G.p + 1).toNat
def cntO (G : Cfg) : Int := sumO (fun o => countN G o) (G.p + 1).toNat
theorem all_step {G : Cfg} (h : GoodC G) {t : Int} (h0 : 0 ≤ t) (h1 : t < 1000000000) : allO G (t + 1) = allO G t + (if (whoN G t).isSome = true then 1 else 0) := by
  unfold allO
  rw [sumO_congr (fun o => good_step h (o := o) h0 h1), sumO_add, sumO_one]
  have hp := h.p
  cases hw : whoN G t with
  | none => rfl
  | some v =>
    have := good_own h hw
    show _ + (if -1 ≤ v ∧ v ≤ (((G.p + 1).toNat : Nat) : Int) - 2 then 1 else 0) = _ + (1 : Int)
    rw [if_pos (by omega)]
theorem all_frame {G : Cfg} (h : GoodC G) {t : Int} (h0 : 0 ≤ t) (h1 : t ≤ 900000000) : allO G (t + G.f) = allO G t + cntO G := by
  unfold allO cntO
  rw [sumO_congr (fun o => good_frame_before h (o := o) h0 h1), sumO_add]
end Go.Proofs.YtcebmgndniejcaaDoor.Wn
