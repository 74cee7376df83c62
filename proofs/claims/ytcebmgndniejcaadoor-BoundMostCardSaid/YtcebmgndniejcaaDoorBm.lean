/- Layer 21 (bound): the plain law of serves and waits, of a config that Good may make. -/
import Derived.Test.YtcebmgndniejcaaDoorBw
set_option linter.unusedVariables false
set_option linter.unusedSimpArgs false
namespace Go.Proofs.YtcebmgndniejcaaDoor.Wn
open Go Go.RowKit Go.Shelf Go.Proofs.YtcebmgndniejcaaDoorW.PrintWords Go.Proofs.YtcebmgndniejcaaDoorW.PrintLast Go.Proofs.YtcebmgndniejcaaDoorW.PrintMore Go.Proofs.YtcebmgndniejcaaDoor.Cz Go.Proofs.YtcebmgndniejcaaDoor.PBoundWaits Go.Proofs.YtcebmgndniejcaaDoor.Cf Go.Proofs.YtcebmgndniejcaaDoor.Sat
/-! Where one stands in a rising row. -/
theorem qu_rise (ks : List S43) : ∀ m, (qu ks m).Pairwise (· < ·)
  | 0 => List.Pairwise.nil
  | m + 1 => by
    show (qu ks m ++ _).Pairwise (· < ·)
    rw [List.pairwise_append]
    refine ⟨qu_rise ks m, ?_, fun a ha b hb => ?_⟩
    · split
      · split
        · exact List.pairwise_singleton _ _
        · exact List.Pairwise.nil
      · exact List.Pairwise.nil
    · have h1 := qu_lt ks m a ha
      split at hb
      · split at hb
        · have := List.mem_singleton.1 hb
          omega
        · cases hb
      · cases hb
theorem idxF_get (x : Int) : ∀ (l : List Int) (i : Int), 0 ≤ i → 0 ≤ idxF x l i → ∃ k : Nat, k < l.length ∧ idxF x l i = i + k ∧ l[k]? = some x
  | [], i, _, h => by
    have h' : (0 : Int) ≤ -1 := h
    omega
  | a :: t, i, hi, h => by
    have he : idxF x (a :: t) i = if x = a then i else idxF x t (i + 1) := rfl
    rw [he] at h ⊢
    by_cases hx : x = a
    · refine ⟨0, Nat.succ_pos _, ?_, by rw [hx]; rfl⟩
      rw [if_pos hx]
      simp
    · rw [if_neg hx] at h ⊢
      obtain ⟨k, h1, h2, h3⟩ := idxF_get x t (i + 1) (by omega) h
      exact ⟨k + 1, Nat.succ_lt_succ h1, by omega, by simpa using h3⟩
theorem idxF_at : ∀ {l : List Int} (h : l.Pairwise (· < ·)) {k : Nat} (hk : k < l.length) (i : Int), idxF l[k] l i = i + k
  | [], _, k, hk, _ => absurd hk (Nat.not_lt_zero _)
  | a :: t, h, 0, _, i => by
    show (if a = a then i else _) = i + ((0 : Nat) : Int)
    rw [if_pos rfl]
    simp
  | a :: t, h, k + 1, hk, i => by
    have h1 := List.pairwise_cons.1 h
    have hk' : k < t.length := Nat.lt_of_succ_lt_succ hk
    have hlt := h1.1 _ (List.getElem_mem hk')
    show (if t[k] = a then i else idxF t[k] t (i + 1)) = i + ((k + 1 : Nat) : Int)
    rw [if_neg (by omega), idxF_at h1.2 hk' (i + 1)]
    omega
theorem rd_iff {l : List Int} (h : l.Pairwise (· < ·)) {x r : Int} (h0 : 0 ≤ r) (h1 : r < l.length) : rd l r = x ↔ idxN x l = r := by
  have hr : r.toNat < l.length := by omega
  have he : rd l r = l[r.toNat] := by simp [rd, hr]
  rw [he]
  constructor
  · intro e
    subst e
    have := idxF_at h hr 0
    unfold idxN
    omega
  · intro e
    obtain ⟨k, k1, k2, k3⟩ := idxF_get x l 0 (Int.le_refl _) (by unfold idxN at e; omega)
    have hk : r.toNat = k := by unfold idxN at e; omega
    subst hk
    rw [List.getElem?_eq_getElem hr] at k3
    exact Option.some.inj k3
section
variable {G : Cfg} (h : GoodC G)
include h
theorem good_q : quN G = qs G := by
  unfold quN
  rw [if_pos (good_ok h)]
theorem good_qr : (quN G).Pairwise (· < ·) := by
  rw [good_q h]
  exact qu_rise G.ks G.ks.length
theorem good_ql : (quN G).length ≤ 5 := Nat.le_trans (quN_len G) h.k
theorem before_le (o : Int) : ∀ t : Nat, t ≤ 1000000000 → 0 ≤ beforeN G o t ∧ beforeN G o t ≤ t
  | 0, _ => by rw [show ((0 : Nat) : Int) = 0 from rfl, good_zero h]; omega
  | t + 1, ht => by
    have h1 := before_le o t (by omega)
    have h2 := good_step h (t := (t : Int)) (o := o) (by omega) (by omega)
    rw [show ((t + 1 : Nat) : Int) = (t : Int) + 1 by omega, h2]
    split <;> omega
theorem before_le' {o t : Int} (h0 : 0 ≤ t) (h1 : t ≤ 1000000000) : 0 ≤ beforeN G o t ∧ beforeN G o t ≤ t := by
  have := before_le h o t.toNat (by omega)
  rwa [show ((t.toNat : Nat) : Int) = t by omega] at this
theorem before_mono_nat {o t : Int} (h0 : 0 ≤ t) : ∀ d : Nat, t + d ≤ 1000000000 → beforeN G o t ≤ beforeN G o (t + d)
  | 0, _ => by rw [show t + ((0 : Nat) : Int) = t from Int.add_zero t]; exact Int.le_refl _
  | d + 1, hd => by
    have h1 := before_mono_nat (o := o) h0 d (by omega)
    have h2 := good_step h (t := t + d) (o := o) (by omega) (by omega)
    rw [show t + ((d + 1 : Nat) : Int) = t + d + 1 by omega, h2]
    split <;> omega
theorem before_mono {o t u : Int} (h0 : 0 ≤ t) (h1 : t ≤ u) (h2 : u ≤ 1000000000) : beforeN G o t ≤ beforeN G o u := by
  have := before_mono_nat h (o := o) h0 (u - t).toNat (by omega)
  rwa [show t + (((u - t).toNat : Nat) : Int) = u by omega] at this
theorem before_strict {o t u : Int} (h0 : 0 ≤ t) (h1 : t < u) (h2 : u ≤ 1000000000) (hw : whoN G t = some o) : beforeN G o t < beforeN G o u := by
  have h3 := good_step h (t := t) (o := o) h0 (by omega)
  rw [if_pos hw] at h3
  have := before_mono h (o := o) (t := t + 1) (u := u) (by omega) (by omega) h2
  omega
/-- Frames later. -/
theorem frames_nat {o t : Int} (h0 : 0 ≤ t) (h1 : t ≤ 2000000) : ∀ j : Nat, j ≤ 10000 → whoN G (t + G.f * j) = whoN G t ∧ beforeN G o (t + G.f * j) = beforeN G o t + countN G o * j
  | 0, _ => by
    rw [show G.f * ((0 : Nat) : Int) = 0 from Int.mul_zero _, show countN G o * ((0 : Nat) : Int) = 0 from Int.mul_zero _, Int.add_zero, Int.add_zero]
    exact ⟨rfl, rfl⟩
  | j + 1, hj => by
    have hf := h.f
    have hi := frames_nat (o := o) h0 h1 j (by omega)
    have hm0 := Int.mul_nonneg (show 0 ≤ G.f by omega) (show 0 ≤ (j : Int) by omega)
    have hm1 : G.f * (j : Int) ≤ 64 * 10000 := Int.mul_le_mul hf.2 (by omega) (by omega) (by omega)
    have h2 := good_frame_who h (t := t + G.f * j) (by omega) (by omega)
    have h3 := good_frame_before h (o := o) (t := t + G.f * j) (by omega) (by omega)
    have e1 : t + G.f * ((j + 1 : Nat) : Int) = t + G.f * j + G.f := by rw [Int.natCast_add, Int.mul_add]; simp; omega
    have e2 : countN G o * ((j + 1 : Nat) : Int) = countN G o * j + countN G o := by rw [Int.natCast_add, Int.mul_add]; simp
    rw [e1, e2, h2, h3, hi.1, hi.2]
    exact ⟨rfl, by omega⟩
theorem nth_frames {o m : Int} (h0 : 0 ≤ m) (h1 : m ≤ 5000000) (hc : countN G o ≠ 0) (j : Int) (j0 : 0 ≤ j) (j1 : j ≤ 5000) : nthN G o (m + countN G o * j) = nthN G o m + G.f * j := by
  have hf := h.f
  have hcb := good_count_bd h o
  have hcl := countN_len G o
  have hk := Int.mul_nonneg hcb.1 j0
  have hk1 : countN G o * j ≤ 512 * 5000 := Int.mul_le_mul hcb.2 j1 j0 (by omega)
  have hd : (m + countN G o * j) / countN G o = m / countN G o + j := Int.add_mul_ediv_left _ _ hc
  have hm : (m + countN G o * j) % countN G o = m % countN G o := Int.add_mul_emod_self_left ..
  have hb0 := Int.emod_nonneg m hc
  have hb1 := Int.emod_lt_of_pos m (show 0 < countN G o by omega)
  have hi : (m % countN G o).toNat < (phs G o).length := by omega
  have hpb := good_bd h (List.getElem_mem hi)
  have hd0 : 0 ≤ m / countN G o := Int.ediv_nonneg h0 (by omega)
  have hd1 : m / countN G o ≤ 5000000 := Int.le_trans (Int.ediv_le_self _ h0) h1
  have k1 := Int.mul_nonneg hd0 (show 0 ≤ G.f by omega)
  have k2 : m / countN G o * G.f ≤ 5000000 * 1000 := Int.mul_le_mul hd1 (by omega) (by omega) (by omega)
  have k3 := Int.mul_nonneg (show 0 ≤ m / countN G o + j by omega) (show 0 ≤ G.f by omega)
  have k4 : (m / countN G o + j) * G.f ≤ 5005000 * 1000 := Int.mul_le_mul (by omega) (by omega) (by omega) (by omega)
  unfold nthN
  rw [if_neg hc, if_neg hc, cut_in (show 0 ≤ m + countN G o * j by omega) (by omega), cut_in h0 (by omega), hd, hm, List.getElem?_eq_getElem hi]
  show tadd (tmul (m / countN G o + j) G.f) _ = tadd (tmul (m / countN G o) G.f) _ + _
  rw [tmul_in h (show 0 ≤ m / countN G o + j by omega) (by omega) (by omega) (by omega), tmul_in h hd0 (by omega) (by omega) (by omega), tadd_in h k3 (by omega) (by omega) (by omega), tadd_in h k1 (by omega) (by omega) (by omega), Int.add_mul, Int.mul_comm j G.f]
  omega
/-- The number of the router's tick at which a channel is served the n-th time. -/
def mN (G : Cfg) (ch now n : Int) : Int := beforeN G (-1) now + (idxN ch (quN G) - beforeN G (-1) now % (quN G).length + (quN G).length) % (quN G).length + (quN G).length * (clip n - 1)
end
theorem skip_eq {at_ r L : Int} (h0 : 0 ≤ at_) (h1 : at_ < L) (r0 : 0 ≤ r) (r1 : r < L) : (at_ - r + L) % L = if r ≤ at_ then at_ - r else at_ - r + L := by
  split
  · rw [Int.add_emod_right]
    exact Int.emod_eq_of_lt (by omega) (by omega)
  · exact Int.emod_eq_of_lt (by omega) (by omega)
section
variable {G : Cfg} (h : GoodC G)
include h
theorem m_bd {ch now n : Int} (h0 : 0 ≤ now) (h1 : now ≤ 2000000) (ha : 0 ≤ idxN ch (quN G)) : beforeN G (-1) now ≤ mN G ch now n ∧ mN G ch now n < beforeN G (-1) now + (quN G).length * clip n ∧ 0 ≤ mN G ch now n ∧ mN G ch now n ≤ 3000000 ∧ mN G ch now n % (quN G).length = idxN ch (quN G) := by
  have hb := before_le' h (o := -1) h0 (by omega)
  have hi := idxN_bd ch (quN G)
  have hl := good_ql h
  have hc := clip_bd n
  unfold mN
  generalize beforeN G (-1) now = b at hb
  generalize idxN ch (quN G) = a at hi ha
  generalize hL : ((quN G).length : Int) = L at hi
  have hL5 : L ≤ 5 := by omega
  generalize clip n = c at hc
  have r0 := Int.emod_nonneg b (show L ≠ 0 by omega)
  have r1 := Int.emod_lt_of_pos b (show 0 < L by omega)
  have hs := skip_eq (L := L) ha hi.2 r0 r1
  have hm0 := Int.mul_nonneg (show 0 ≤ L by omega) (show 0 ≤ c - 1 by omega)
  have hm1 : L * (c - 1) ≤ 5 * 100 := Int.mul_le_mul hL5 (by omega) (by omega) (by omega)
  have hd : L * c = L * (c - 1) + L := by rw [Int.mul_sub]; simp
  have hs0 : 0 ≤ (a - b % L + L) % L ∧ (a - b % L + L) % L < L := ⟨Int.emod_nonneg _ (by omega), Int.emod_lt_of_pos _ (by omega)⟩
  refine ⟨by omega, by omega, by omega, by omega, ?_⟩
  rw [Int.add_mul_emod_self_left, hs]
  have he := Int.emod_add_mul_ediv b L
  split
  · rw [show b + (a - b % L) = a + L * (b / L) by omega, Int.add_mul_emod_self_left]
    exact Int.emod_eq_of_lt ha hi.2
  · rw [show b + (a - b % L + L) = a + L * (b / L + 1) by rw [Int.mul_add]; omega, Int.add_mul_emod_self_left]
    exact Int.emod_eq_of_lt ha hi.2
theorem good_serve {ch now n : Int} (h0 : 0 ≤ now) (h1 : now ≤ 2000000) (ha : 0 ≤ idxN ch (quN G)) (hK : countN G (-1) ≠ 0) : serveN G ch now n = nthN G (-1) (mN G ch now n) := by
  have hb := before_le' h (o := -1) h0 (by omega)
  have hi := idxN_bd ch (quN G)
  have hl := good_ql h
  have hc := clip_bd n
  unfold serveN
  rw [if_neg (by omega), if_neg hK]
  unfold srvAt mN
  have r0 := Int.emod_nonneg (beforeN G (-1) now) (show ((quN G).length : Int) ≠ 0 by omega)
  have r1 := Int.emod_lt_of_pos (beforeN G (-1) now) (show 0 < ((quN G).length : Int) by omega)
  rw [Int.tmod_eq_emod_of_nonneg hb.1, Int.tmod_eq_emod_of_nonneg (by omega)]
  generalize hL : ((quN G).length : Int) = L at hi r0 r1
  have hs0 : 0 ≤ (idxN ch (quN G) - beforeN G (-1) now % L + L) % L ∧ (idxN ch (quN G) - beforeN G (-1) now % L + L) % L < L := ⟨Int.emod_nonneg _ (by omega), Int.emod_lt_of_pos _ (by omega)⟩
  have hm0 := Int.mul_nonneg (show 0 ≤ L by omega) (show 0 ≤ clip n - 1 by omega)
  have hm1 : L * (clip n - 1) ≤ 5 * 100 := Int.mul_le_mul (by omega) (by omega) (by omega) (by omega)
  rw [tadd_in h hb.1 (by omega) (by omega) (by omega), Int.add_assoc]
theorem no_serve {ch now n : Int} (hn : ¬ (0 ≤ idxN ch (quN G) ∧ countN G (-1) ≠ 0)) : serveN G ch now n = -1 := by
  have _hh := h
  unfold serveN
  by_cases ha : idxN ch (quN G) < 0
  · rw [if_pos ha]
  · rw [if_neg ha, if_pos (Decidable.byContradiction (fun hk => hn ⟨by omega, hk⟩))]
theorem serve_ge {ch now n : Int} (h0 : 0 ≤ now) (h1 : now ≤ 2000000) (ha : 0 ≤ idxN ch (quN G)) (hK : countN G (-1) ≠ 0) : now ≤ serveN G ch now n ∧ serveN G ch now n ≤ 900000000 := by
  have hm := m_bd h (n := n) h0 h1 ha
  obtain ⟨n1, n2, n3⟩ := good_nth h (o := -1) hm.2.2.1 (by omega) hK
  rw [good_serve h h0 h1 ha hK]
  refine ⟨Decidable.byContradiction (fun hlt => ?_), n1.2⟩
  have := before_strict h (o := -1) n1.1 (show nthN G (-1) (mN G ch now n) < now by omega) (by omega) n2
  omega
/-- A Cycle later. -/
theorem good_cyc : cycN G = G.f * one1 (quN G).length ∧ 1 ≤ one1 (quN G).length ∧ one1 (quN G).length ≤ 5 ∧ 1 ≤ cycN G ∧ cycN G ≤ 320 := by
  have hf := h.f
  have hl := good_ql h
  have h1 : cycN G = G.f * one1 (quN G).length := by unfold cycN; rw [if_pos (good_ok h)]
  have h2 : 1 ≤ one1 (quN G).length ∧ one1 (quN G).length ≤ 5 := by unfold one1; split <;> omega
  have h3 : 1 * 1 ≤ G.f * one1 (quN G).length := Int.mul_le_mul hf.1 h2.1 (by omega) (by omega)
  have h4 : G.f * one1 (quN G).length ≤ 64 * 5 := Int.mul_le_mul hf.2 h2.2 (by omega) (by omega)
  exact ⟨h1, h2.1, h2.2, by omega, by omega⟩
theorem cyc_who {t : Int} (h0 : 0 ≤ t) (h1 : t ≤ 2000000) : whoN G (t + cycN G) = whoN G t := by
  obtain ⟨e, l0, l1, _⟩ := good_cyc h
  have := (frames_nat h (o := 0) h0 h1 (one1 (quN G).length).toNat (by omega)).1
  rwa [show (((one1 (quN G).length).toNat : Nat) : Int) = one1 (quN G).length by omega, ← e] at this
theorem cyc_before {t : Int} (h0 : 0 ≤ t) (h1 : t ≤ 2000000) : beforeN G (-1) (t + cycN G) = beforeN G (-1) t + countN G (-1) * one1 (quN G).length := by
  obtain ⟨e, l0, l1, _⟩ := good_cyc h
  have := (frames_nat h (o := -1) h0 h1 (one1 (quN G).length).toNat (by omega)).2
  rwa [show (((one1 (quN G).length).toNat : Nat) : Int) = one1 (quN G).length by omega, ← e] at this
theorem cyc_serves {t : Int} (h0 : 0 ≤ t) (h1 : t ≤ 1500000) : servesN G (t + cycN G) = servesN G t := by
  have hc := good_cyc h
  have hb := before_le' h (o := -1) h0 (by omega)
  have hb2 := before_le' h (o := -1) (t := t + cycN G) (by omega) (by omega)
  unfold servesN
  rw [cyc_who h h0 (by omega)]
  split
  · by_cases hq : qs G = []
    · rw [if_pos hq, if_pos hq]
    · rw [if_neg hq, if_neg hq]
      have hl : 0 < (qs G).length := List.length_pos_iff.2 hq
      have he := cyc_before h h0 (t := t) (by omega)
      rw [good_q h] at he
      have ho : one1 (qs G).length = (qs G).length := by unfold one1; rw [if_neg (by omega)]
      rw [ho] at he
      rw [Int.tmod_eq_emod_of_nonneg hb.1, Int.tmod_eq_emod_of_nonneg hb2.1, he, Int.add_mul_emod_self_right]
  · rfl
theorem cyc_serve {ch t n : Int} (h0 : 0 ≤ t) (h1 : t ≤ 1500000) (ha : 0 ≤ idxN ch (quN G)) (hK : countN G (-1) ≠ 0) : serveN G ch (t + cycN G) n = serveN G ch t n + cycN G := by
  have hc := good_cyc h
  have hi := idxN_bd ch (quN G)
  have hcb := good_count_bd h (-1)
  have ho : one1 (quN G).length = (quN G).length := by unfold one1; rw [if_neg (by omega)]
  have hm := m_bd h (n := n) h0 (by omega) ha
  have he := cyc_before h h0 (t := t) (by omega)
  rw [ho] at he
  rw [good_serve h (by omega) (by omega) ha hK, good_serve h h0 (by omega) ha hK]
  have hmm : mN G ch (t + cycN G) n = mN G ch t n + countN G (-1) * (quN G).length := by
    unfold mN
    rw [he, Int.add_mul_emod_self_right]
    omega
  rw [hmm, nth_frames h hm.2.2.1 (by omega) hK _ (by omega) (by have := good_ql h; omega), hc.1, ho]
theorem cyc_serve_nat {ch t n : Int} (h0 : 0 ≤ t) (h1 : t ≤ 400) (ha : 0 ≤ idxN ch (quN G)) (hK : countN G (-1) ≠ 0) : ∀ j : Nat, j ≤ 1000 → serveN G ch (t + cycN G * j) n = serveN G ch t n + cycN G * j
  | 0, _ => by rw [show cycN G * ((0 : Nat) : Int) = 0 from Int.mul_zero _, Int.add_zero, Int.add_zero]
  | j + 1, hj => by
    have hc := good_cyc h
    have hi := cyc_serve_nat (n := n) h0 h1 ha hK j (by omega)
    have m0 := Int.mul_nonneg (show 0 ≤ cycN G by omega) (show 0 ≤ (j : Int) by omega)
    have m1 : cycN G * (j : Int) ≤ 320 * 1000 := Int.mul_le_mul (by omega) (by omega) (by omega) (by omega)
    have e1 : t + cycN G * ((j + 1 : Nat) : Int) = t + cycN G * j + cycN G := by rw [Int.natCast_add, Int.mul_add]; simp; omega
    have e2 : cycN G * ((j + 1 : Nat) : Int) = cycN G * j + cycN G := by rw [Int.natCast_add, Int.mul_add]; simp
    rw [e1, cyc_serve h (by omega) (by omega) ha hK, hi, e2]
    omega
/-- One time more takes longer. -/
theorem serve_more {ch t n : Int} (h0 : 0 ≤ t) (h1 : t ≤ 2000000) (ha : 0 ≤ idxN ch (quN G)) (hK : countN G (-1) ≠ 0) (n0 : 1 ≤ n) (n1 : n ≤ 50) : serveN G ch t n < serveN G ch t (n + 1) := by
  have hi := idxN_bd ch (quN G)
  have hm := m_bd h (n := n) h0 h1 ha
  have hm' := m_bd h (n := n + 1) h0 h1 ha
  have hlt : mN G ch t n < mN G ch t (n + 1) := by
    have c1 : clip n = n := by unfold clip; split <;> split at * <;> omega
    have c2 : clip (n + 1) = n + 1 := by unfold clip; split <;> split at * <;> omega
    unfold mN
    rw [c1, c2]
    have : ((quN G).length : Int) * (n + 1 - 1) = (quN G).length * (n - 1) + (quN G).length := by rw [show n + 1 - 1 = (n - 1) + 1 by omega, Int.mul_add]; simp
    omega
  obtain ⟨a1, a2, a3⟩ := good_nth h (o := -1) hm.2.2.1 (by omega) hK
  obtain ⟨b1, b2, b3⟩ := good_nth h (o := -1) hm'.2.2.1 (by omega) hK
  rw [good_serve h h0 h1 ha hK, good_serve h h0 h1 ha hK]
  refine Decidable.byContradiction (fun hge => ?_)
  have := before_mono h (o := -1) b1.1 (show nthN G (-1) (mN G ch t (n + 1)) ≤ nthN G (-1) (mN G ch t n) by omega) (by omega)
  omega
/-! Waits. -/
theorem wait_none {ch n : Int} (hn : ¬ (0 ≤ idxN ch (quN G) ∧ countN G (-1) ≠ 0)) : waitN G ch n = -1 := by
  unfold waitN
  generalize (cycN G).toNat = N
  induction N with
  | zero => rfl
  | succ N ih =>
    show noteN (waitTo G ch n N) N (serveN G ch N n) = -1
    rw [ih, no_serve h hn]
    rfl
theorem wait_ge {ch : Int} (n : Int) (ha : 0 ≤ idxN ch (quN G)) (hK : countN G (-1) ≠ 0) : ∀ N : Nat, N ≤ 1000 → ∀ t : Nat, t < N → serveN G ch t n - t ≤ waitTo G ch n N
  | 0, _, t, ht => absurd ht (Nat.not_lt_zero _)
  | N + 1, hN, t, ht => by
    have hg := serve_ge h (n := n) (now := (N : Int)) (by omega) (by omega) ha hK
    have he : waitTo G ch n (N + 1) = if waitTo G ch n N < serveN G ch N n - N then serveN G ch N n - N else waitTo G ch n N := by
      show noteN _ _ _ = _
      unfold noteN
      rw [if_pos (by omega)]
    rw [he]
    rcases Nat.lt_or_ge t N with hlt | hge
    · have := wait_ge n ha hK N (by omega) t hlt
      split <;> omega
    · obtain rfl : t = N := by omega
      split <;> omega
theorem wait_at {ch : Int} (n : Int) (ha : 0 ≤ idxN ch (quN G)) (hK : countN G (-1) ≠ 0) : ∀ N : Nat, N ≤ 1000 → (waitTo G ch n N = -1 ∧ N = 0) ∨ ∃ t : Nat, t < N ∧ serveN G ch t n - t = waitTo G ch n N
  | 0, _ => Or.inl ⟨rfl, rfl⟩
  | N + 1, hN => by
    have hg := serve_ge h (n := n) (now := (N : Int)) (by omega) (by omega) ha hK
    have he : waitTo G ch n (N + 1) = if waitTo G ch n N < serveN G ch N n - N then serveN G ch N n - N else waitTo G ch n N := by
      show noteN _ _ _ = _
      unfold noteN
      rw [if_pos (by omega)]
    rw [he]
    right
    split
    · exact ⟨N, by omega, rfl⟩
    · rcases wait_at n ha hK N (by omega) with ⟨h1, h2⟩ | ⟨t, h1, h2⟩
      · rename_i hno
        rw [h1] at hno
        omega
      · exact ⟨t, by omega, h2⟩
/-- What BoundMost says. -/
theorem wait_all {ch n now : Int} (ha : 0 ≤ idxN ch (quN G)) (hK : countN G (-1) ≠ 0) (h0 : 0 ≤ now) (h1 : now < 1000) (n0 : 1 ≤ n) (n1 : n ≤ 50) :
    0 ≤ waitN G ch n ∧ (now ≤ serveN G ch now n ∧ serveN G ch now n - now ≤ waitN G ch n) ∧ (∃ t : Nat, t < (cycN G).toNat ∧ serveN G ch t n - t = waitN G ch n) ∧ waitN G ch n < waitN G ch (n + 1) := by
  have hc := good_cyc h
  obtain ⟨N, hN⟩ : ∃ N, (cycN G).toNat = N := ⟨_, rfl⟩
  have hN1 : ((N : Nat) : Int) = cycN G := by omega
  have hw : waitN G ch n = waitTo G ch n N := by unfold waitN; rw [hN]
  have hw' : waitN G ch (n + 1) = waitTo G ch (n + 1) N := by unfold waitN; rw [hN]
  rw [hw, hw', hN]
  have hat : ∃ t : Nat, t < N ∧ serveN G ch t n - t = waitTo G ch n N := by
    rcases wait_at h n ha hK N (by omega) with ⟨_, h2⟩ | h2
    · omega
    · exact h2
  obtain ⟨t, t1, t2⟩ := hat
  have hg := serve_ge h (n := n) (now := (t : Int)) (by omega) (by omega) ha hK
  refine ⟨by omega, ⟨(serve_ge h (n := n) h0 (by omega) ha hK).1, ?_⟩, ⟨t, t1, t2⟩, ?_⟩
  · have r0 := Int.emod_nonneg now (show cycN G ≠ 0 by omega)
    have r1 := Int.emod_lt_of_pos now (show 0 < cycN G by omega)
    have he := Int.emod_add_mul_ediv now (cycN G)
    have d0 : 0 ≤ now / cycN G := Int.ediv_nonneg h0 (by omega)
    have d1 : now / cycN G ≤ now := Int.ediv_le_self _ h0
    have hs := cyc_serve_nat h (n := n) r0 (by omega) ha hK (now / cycN G).toNat (by omega)
    rw [show (((now / cycN G).toNat : Nat) : Int) = now / cycN G by omega, he] at hs
    have := wait_ge h n ha hK N (by omega) (now % cycN G).toNat (by omega)
    rw [show (((now % cycN G).toNat : Nat) : Int) = now % cycN G by omega] at this
    omega
  · have h3 := serve_more h (t := (t : Int)) (by omega) (by omega) ha hK n0 n1
    have h4 := wait_ge h (n + 1) ha hK N (by omega) t t1
    omega
/-! Turns. -/
theorem serves_is {ch i : Int} (h0 : 0 ≤ i) (h1 : i ≤ 2000000) : servesN G i = some ch ↔ whoN G i = some (-1) ∧ 0 ≤ idxN ch (quN G) ∧ beforeN G (-1) i % (quN G).length = idxN ch (quN G) := by
  have hb := before_le' h (o := -1) h0 (by omega)
  have hi := idxN_bd ch (quN G)
  unfold servesN
  rw [← good_q h]
  by_cases hw : whoN G i = some (-1)
  · rw [if_pos hw]
    by_cases hq : quN G = []
    · rw [if_pos hq]
      constructor
      · intro e
        cases e
      · rintro ⟨_, h2, _⟩
        rw [hq] at hi h2
        simp at hi
        omega
    · rw [if_neg hq]
      have hl : 0 < (quN G).length := List.length_pos_iff.2 hq
      have r0 := Int.emod_nonneg (beforeN G (-1) i) (show ((quN G).length : Int) ≠ 0 by omega)
      have r1 := Int.emod_lt_of_pos (beforeN G (-1) i) (show 0 < ((quN G).length : Int) by omega)
      rw [Int.tmod_eq_emod_of_nonneg hb.1]
      have hr := rd_iff (good_qr h) (x := ch) r0 r1
      constructor
      · intro e
        have := hr.1 (Option.some.inj e)
        exact ⟨hw, by omega, this.symm⟩
      · rintro ⟨_, _, h3⟩
        rw [hr.2 h3.symm]
  · rw [if_neg hw]
    constructor
    · intro e
      cases e
    · rintro ⟨h2, _⟩
      exact absurd h2 hw
/-- So often a channel was served from a tick on. -/
def TI (G : Cfg) (ch now i s la : Int) : Prop := beforeN G (-1) i ≤ mN G ch now (s + 1) ∧ (s = 0 ∨ (1 ≤ s ∧ mN G ch now s < beforeN G (-1) i ∧ la = serveN G ch now s))
theorem good_count_pos {o t : Int} (h0 : 0 ≤ t) (h1 : t ≤ 1000000000) (hw : whoN G t = some o) : 0 < countN G o := by
  have hm := (good_who_iff h h0 h1).1 hw
  rw [countN_len]
  have := List.length_pos_of_mem hm
  omega
theorem clip_in {n : Int} (n0 : 1 ≤ n) (n1 : n ≤ 100) : clip n = n := by
  have _hh := h
  unfold clip
  split <;> split at * <;> omega
theorem m_succ {ch now s : Int} (s0 : 1 ≤ s) (s1 : s ≤ 50) : mN G ch now (s + 1) = mN G ch now s + (quN G).length := by
  unfold mN
  rw [clip_in h s0 (by omega), clip_in h (show 1 ≤ s + 1 by omega) (by omega)]
  have : ((quN G).length : Int) * (s + 1 - 1) = (quN G).length * (s - 1) + (quN G).length := by rw [show s + 1 - 1 = (s - 1) + 1 by omega, Int.mul_add]; simp
  omega
theorem turn_start {ch now : Int} (h0 : 0 ≤ now) (h1 : now ≤ 10000) (ha : 0 ≤ idxN ch (quN G)) : TI G ch now now 0 (-1) :=
  ⟨(m_bd h (n := 0 + 1) h0 (by omega) ha).1, Or.inl rfl⟩
theorem turn_yes {ch now i s la : Int} (h0 : 0 ≤ now) (h1 : now ≤ 10000) (ha : 0 ≤ idxN ch (quN G)) (hK : countN G (-1) ≠ 0) (i0 : now ≤ i) (i1 : i < 10000) (s0 : 0 ≤ s) (s1 : s ≤ 20) (ht : TI G ch now i s la) (hs : servesN G i = some ch) : TI G ch now (i + 1) (s + 1) i := by
  obtain ⟨hw, _, hm⟩ := (serves_is h (by omega) (by omega)).1 hs
  have hst := good_step h (t := i) (o := -1) (by omega) (by omega)
  rw [if_pos hw] at hst
  have hM := m_bd h (n := s + 1) h0 (by omega) ha
  have hi := idxN_bd ch (quN G)
  have hl := good_ql h
  have hmono := before_mono h (o := -1) h0 i0 (by omega)
  have hgt : mN G ch now (s + 1) < beforeN G (-1) i + (quN G).length := by
    rcases ht.2 with rfl | ⟨s2, s3, _⟩
    · have h3 := hM.2.1
      rw [clip_in h (show (1 : Int) ≤ 0 + 1 by omega) (by omega)] at h3
      simp at h3
      simp
      omega
    · have := m_succ h (ch := ch) (now := now) s2 (by omega)
      omega
  have heq : beforeN G (-1) i = mN G ch now (s + 1) := by
    have e1 := Int.emod_add_mul_ediv (beforeN G (-1) i) (quN G).length
    have e2 := Int.emod_add_mul_ediv (mN G ch now (s + 1)) (quN G).length
    rw [hm] at e1
    rw [hM.2.2.2.2] at e2
    have hle := ht.1
    generalize hL : ((quN G).length : Int) = L at *
    have hd : L * (mN G ch now (s + 1) / L - beforeN G (-1) i / L) < L * 1 := by rw [Int.mul_sub]; omega
    have hd2 : L * (-1) < L * (mN G ch now (s + 1) / L - beforeN G (-1) i / L) := by rw [Int.mul_sub]; omega
    have hd3 := Int.lt_of_mul_lt_mul_left hd (by omega)
    have hd4 := Int.lt_of_mul_lt_mul_left hd2 (by omega)
    have hq : mN G ch now (s + 1) / L = beforeN G (-1) i / L := by omega
    rw [hq] at e2
    omega
  refine ⟨?_, Or.inr ⟨by omega, by omega, ?_⟩⟩
  · have := m_succ h (ch := ch) (now := now) (s := s + 1) (by omega) (by omega)
    omega
  · rw [good_serve h h0 (by omega) ha hK, ← heq, good_nth_at h (by omega) (by omega) hw]
theorem turn_no {ch now i s la : Int} (h0 : 0 ≤ now) (h1 : now ≤ 10000) (ha : 0 ≤ idxN ch (quN G)) (i0 : now ≤ i) (i1 : i < 10000) (ht : TI G ch now i s la) (hs : servesN G i ≠ some ch) : TI G ch now (i + 1) s la := by
  have hst := good_step h (t := i) (o := -1) (by omega) (by omega)
  by_cases hw : whoN G i = some (-1)
  · rw [if_pos hw] at hst
    have hM := m_bd h (n := s + 1) h0 (by omega) ha
    have hne : beforeN G (-1) i ≠ mN G ch now (s + 1) := fun e => hs ((serves_is h (by omega) (by omega)).2 ⟨hw, ha, by rw [e]; exact hM.2.2.2.2⟩)
    have hle := ht.1
    refine ⟨by omega, ?_⟩
    rcases ht.2 with h2 | ⟨h2, h3, h4⟩
    · exact Or.inl h2
    · exact Or.inr ⟨h2, by omega, h4⟩
  · rw [if_neg hw, Int.add_zero] at hst
    unfold TI
    rw [hst]
    exact ht
theorem turn_more {ch now s n la : Int} (h0 : 0 ≤ now) (h1 : now ≤ 1000) (ha : 0 ≤ idxN ch (quN G)) (hK : countN G (-1) ≠ 0) (s0 : 0 ≤ s) (n1 : n ≤ 5) (hsn : s < n) (ht : TI G ch now (now + n * cycN G) s la) : False := by
  have hc := good_cyc h
  have hi := idxN_bd ch (quN G)
  have hcb := good_count_bd h (-1)
  have ho : one1 (quN G).length = (quN G).length := by unfold one1; rw [if_neg (by omega)]
  obtain ⟨j, hj⟩ : ∃ j : Nat, (j : Int) = (quN G).length * n := ⟨((quN G).length * n).toNat, by have := Int.mul_nonneg (show 0 ≤ ((quN G).length : Int) by omega) (show 0 ≤ n by omega); omega⟩
  have hj1 : ((quN G).length : Int) * n ≤ 5 * 5 := Int.mul_le_mul (by have := good_ql h; omega) n1 (by omega) (by omega)
  have hf := (frames_nat h (o := -1) h0 (by omega) j (by omega)).2
  have he : G.f * (j : Int) = n * cycN G := by rw [hj, hc.1, ho, ← Int.mul_assoc, Int.mul_comm]
  rw [he] at hf
  have hM := m_bd h (n := s + 1) h0 (by omega) ha
  rw [clip_in h (show 1 ≤ s + 1 by omega) (by omega)] at hM
  have h2 : ((quN G).length : Int) * (s + 1) ≤ (quN G).length * n := Int.mul_le_mul_of_nonneg_left (by omega) (by omega)
  have h3 : 1 * (j : Int) ≤ countN G (-1) * j := Int.mul_le_mul_of_nonneg_right (by omega) (by omega)
  have h4 := ht.1
  omega
end
end Go.Proofs.YtcebmgndniejcaaDoor.Wn
