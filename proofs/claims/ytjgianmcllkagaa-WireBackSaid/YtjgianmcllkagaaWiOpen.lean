/- Layer 3 (wire): Open, of the program and of the document. -/
import Derived.Test.YtjgianmcllkagaaWiLives
set_option linter.unusedVariables false
set_option linter.unusedSimpArgs false
namespace Go.Proofs.Ytjgianmcllkagaa.Wi
open Go.RowKit Go.Proofs.YtjgianmcllkagaaW.PrintWords Go.Proofs.YtjgianmcllkagaaW.PrintLast Go.Proofs.YtjgianmcllkagaaW.PrintMore
attribute [local go_sem] max2_int min2_int max_two min_two max_three min_three max_four min_four
def opE (xs : List Int) : Int := if xs.length < 2 then 9 else if valB (xs.drop (xs.length - 2)) ≠ sumB (xs.take (xs.length - 2)) then 8 else 0
def opB (xs : List Int) : List Int := if opE xs = 0 then xs.take (xs.length - 2) else []
theorem CI.drew {k : IntKind} {W : World} {A : Option Addr} {c : Nat} {xs : List Int} (h : CI k W A c xs) : CI k W.drew A c xs := h.below (below_drew (Below.refl _ _))
theorem RD.drew {W : World} {g : Nat} {r : Rd} (h : RD W g r) : RD W.drew g r := h.far (below_drew (Below.refl _ _))
theorem open_short {A : Option Addr} {c n : Nat} {w : World} (hn : n < 2) : Calls Try.prog 25 #[.slice A n c] w fun e w' => e = .returned (.tuple #[.slice none 0 0, .int .i64 9]) ∧ w = w' := by
  have hd : decide ((n : Int) - 2 < 0) = true := decide_eq_true (by omega)
  have hn' : n ≤ 1 := by omega
  clear hn
  go_enter Try.func25, Try.ntmps25
  go_wp2
  go_ret2
  exact ⟨rfl, rfl⟩
theorem open_long {A : Option Addr} {c m : Nat} {xs : List Int} {w : World} (h : CI .u8 w A c xs) (hf : WF xs) (hl : xs.length ≤ 900) (hm : xs.length = m + 2) : Calls Try.prog 25 #[.slice A xs.length c] w fun e w' => ∃ v, e = .returned (.tuple #[v, .int .i64 (if valB (xs.drop m) = sumB (xs.take m) then 0 else 8)]) ∧ OI .u8 5 w w' v (if valB (xs.drop m) = sumB (xs.take m) then xs.take m else []) := by
  obtain ⟨i, hi, hz, hs, hbt⟩ := info_parts info8
  have hcut1 : ∀ W : World, (Instr.slice 22 (.slice A xs.length c) none (some (.int .i64 (m : Int))) none).run Try.prog W = .ok (.slice A m c) W := cut_to (P := Try.prog) 22 5 .i64 Try.underlying22 hi A xs.length c (m : Int) (by omega) (by omega) h.le
  have hcut2 : ∀ W : World, (Instr.slice 22 (.slice A xs.length c) (some (.int .i64 (m : Int))) none none).run Try.prog W = .ok (.slice (if c = m then A else A.map (·.add (m * 1))) (xs.length - m) (c - m)) W := cut_from (P := Try.prog) 22 5 .i64 Try.underlying22 hi 1 hs A xs.length c (m : Int) (by omega) (by omega)
  rw [Nat.mul_one] at hcut2
  have hd2 := h.drop (m := m) (by omega)
  generalize (if c = m then A else A.map (·.add m)) = A2 at hcut2 hd2
  have htk := h.take (m := m) (by omega)
  have hlt : (xs.take m).length = m := by rw [List.length_take]; omega
  have hld : (xs.drop m).length = xs.length - m := List.length_drop
  have hf1 := hf.take m
  have hf2 := hf.drop m
  have e1 : (xs.length : Int) - 2 = (m : Int) := by omega
  have hlen2 : xs.length - m = 2 := by omega
  have hlen900 : xs.length ≤ 900 := hl
  clear h hi hz hs hbt hf
  rw [hlen2] at hcut2 hld
  generalize xs.take m = ys at htk hlt hf1
  generalize xs.drop m = zs at hd2 hld hf2
  have hmm : m ≤ 900 := by omega
  clear hlen2 hl
  generalize xs.length = len at hcut1 hcut2 e1 hm hlen900
  have hd0 : decide ((m : Int) < 0) = false := decide_eq_false (by omega)
  clear hm
  subst hlt
  have HR : Aside0 _ := ⟨read_any hd2 hf2 (by omega)⟩
  rw [hld] at HR
  have HN : ∀ g w, RD w g ⟨zs, 0⟩ → Calls Try.prog 13 #[.pointer (some ⟨g, 0, none⟩), .int .i64 2] w fun e w' => e = .returned (.int .i64 (valB zs)) ∧ RD w' g (next ⟨zs, 0⟩ 2) ∧ w.grownBy w' (some g) := fun g w hr => by
    have := next_any hr 2
    rw [show nextV ⟨zs, 0⟩ 2 = valB zs by
      have : ¬ ((zs.length : Int) < 2) := by omega
      simp only [nextV, ne_eq, not_true_eq_false, if_false, show lim 2 ≠ 0 by decide, this]
      rw [show (2 : Int).toNat = zs.length by rw [hld]; rfl, List.take_length]] at this
    exact this
  have HN := Aside0.mk HN
  have HC := Aside0.mk htk
  have HF := Aside0.mk hf1
  clear hf2 hd2 hld htk hf1
  by_cases hq : valB zs = sumB ys
  · rw [if_pos hq, if_pos hq]
    have hb : (valB zs != sumB ys) = false := bne_eq_false_iff_eq.mpr hq
    clear hq
    go_enter Try.func25, Try.ntmps25
    go_upto_region 5 with (first | (go_at_call 11; refine HR.out.mono ?_; clear HR; rintro e w2 ⟨g, rfl, hr, hb2, hg⟩; have HR := Aside0.mk hr; have HB := Aside0.mk hb2; have HG := Aside0.mk hg; clear hr hb2 hg))
    go_region_held3 (fun w' => CI .u8 w' A c ys) (first | exact HC.out.below (below_drew HB.out) | exact HC.out.below HB3.out) (first | (go_at_call 13; refine (HN.out _ _ HR.out.drew).mono ?_; rintro e w3 ⟨rfl, hr, hg⟩; have HB3 := Aside0.mk (below_grown (below_drew HB.out) hg (fun k hk => by cases hk; exact HG.out)); clear hr hg) | (go_at_call 21; refine (sum_any (by assumption) HF.out (by omega)).mono ?_; rintro e w' ⟨rfl, rfl⟩))
    go_wp2_with (first | (go_at_call 27; refine (clone_any (HC.out.below HB3.out) (by omega)).mono ?_; rintro e w4 ⟨v, rfl, ho⟩; have HO := Aside0.mk (ho.less HB3.out); clear ho))
    go_ret2
    exact ⟨_, rfl, HO.out⟩
  · rw [if_neg hq, if_neg hq]
    have hb : (valB zs != sumB ys) = true := bne_iff_ne.mpr hq
    clear hq
    go_enter Try.func25, Try.ntmps25
    go_upto_region 5 with (first | (go_at_call 11; refine HR.out.mono ?_; clear HR; rintro e w2 ⟨g, rfl, hr, hb2, hg⟩; have HR := Aside0.mk hr; have HB := Aside0.mk hb2; have HG := Aside0.mk hg; clear hr hb2 hg))
    go_region_held3 (fun w' => CI .u8 w' A c ys) (first | exact HC.out.below (below_drew HB.out) | exact HC.out.below HB3.out) (first | (go_at_call 13; refine (HN.out _ _ HR.out.drew).mono ?_; rintro e w3 ⟨rfl, hr, hg⟩; have HB3 := Aside0.mk (below_grown (below_drew HB.out) hg (fun k hk => by cases hk; exact HG.out)); clear hr hg) | (go_at_call 21; refine (sum_any (by assumption) HF.out (by omega)).mono ?_; rintro e w' ⟨rfl, rfl⟩))
    go_wp2
    go_ret2
    exact ⟨_, rfl, OI.nil _ _ HB3.out⟩
theorem open_any {A : Option Addr} {c : Nat} {xs : List Int} {w : World} (h : CI .u8 w A c xs) (hf : WF xs) (hl : xs.length ≤ 900) : Calls Try.prog 25 #[.slice A xs.length c] w fun e w' => ∃ v, e = .returned (.tuple #[v, .int .i64 (opE xs)]) ∧ OI .u8 5 w w' v (opB xs) := by
  by_cases h2 : xs.length < 2
  · have e1 : opE xs = 9 := by unfold opE; rw [if_pos h2]
    have e2 : opB xs = [] := by unfold opB; rw [e1]; rfl
    rw [e1, e2]
    exact (open_short h2).mono (fun e w' ⟨h3, h4⟩ => ⟨_, h3, OI.nil _ _ (by rw [← h4]; exact Below.refl _ _)⟩)
  · have hm : xs.length = (xs.length - 2) + 2 := by omega
    have e1 : opE xs = if valB (xs.drop (xs.length - 2)) = sumB (xs.take (xs.length - 2)) then 0 else 8 := by
      unfold opE
      rw [if_neg h2]
      by_cases hq : valB (xs.drop (xs.length - 2)) = sumB (xs.take (xs.length - 2))
      · rw [if_pos hq, if_neg (fun h => h hq)]
      · rw [if_neg hq, if_pos hq]
    have e2 : opB xs = if valB (xs.drop (xs.length - 2)) = sumB (xs.take (xs.length - 2)) then xs.take (xs.length - 2) else [] := by
      unfold opB
      rw [e1]
      by_cases hq : valB (xs.drop (xs.length - 2)) = sumB (xs.take (xs.length - 2))
      · rw [if_pos hq, if_pos hq, if_pos rfl]
      · rw [if_neg hq, if_neg hq, if_neg (by decide)]
    rw [e1, e2]
    exact open_long h hf hl hm
/-! The document's -/
theorem putB_val {s : Int} (h0 : 0 ≤ s) (h1 : s < 65536) : valB (putB 2 s) = s := by
  simp [putB, valB]
  omega
theorem val_inj2 {xs : List Int} (h : WF xs) (hl : xs.length = 2) : putB 2 (valB xs) = xs := by
  rcases xs with _ | ⟨a, _ | ⟨b, _ | ⟨c, t⟩⟩⟩
  · simp at hl
  · simp at hl
  · have := h a (by simp)
    have := h b (by simp)
    simp [putB, valB]
    omega
  · simp at hl
theorem seal_eq {xs : List Int} {m : Nat} (hf : WF xs) (hm : xs.length = m + 2) : (xs.take m ++ putB 2 (sumB (xs.take m)) = xs) ↔ valB (xs.drop m) = sumB (xs.take m) := by
  have hs := sumB_bound (xs.take m)
  have hd : (xs.drop m).length = 2 := by rw [List.length_drop]; omega
  constructor
  · intro h
    have h2 : putB 2 (sumB (xs.take m)) = xs.drop m := by
      have h3 : xs.take m ++ putB 2 (sumB (xs.take m)) = xs.take m ++ xs.drop m := by rw [h, List.take_append_drop]
      exact List.append_cancel_left h3
    rw [← h2, putB_val hs.1 hs.2]
  · intro h
    rw [← h, val_inj2 (hf.drop m) hd, List.take_append_drop]
theorem byte_inj {x y : Int} (hx : 0 ≤ x ∧ x < 256) (hy : 0 ≤ y ∧ y < 256) (h : UInt8.ofNat x.toNat = UInt8.ofNat y.toNat) : x = y := by
  have h2 := congrArg UInt8.toNat h
  simp only [UInt8.toNat_ofNat'] at h2
  omega
theorem map_inj : ∀ {xs ys : List Int}, WF xs → WF ys → xs.map (fun n => UInt8.ofNat n.toNat) = ys.map (fun n => UInt8.ofNat n.toNat) → xs = ys
  | [], [], _, _, _ => rfl
  | [], y :: ys, _, _, h => by simp at h
  | x :: xs, [], _, _, h => by simp at h
  | x :: xs, y :: ys, hx, hy, h => by
    simp only [List.map_cons, List.cons.injEq] at h
    rw [byte_inj (hx x (by simp)) (hy y (by simp)) h.1, map_inj (fun z hz => hx z (by simp [hz])) (fun z hz => hy z (by simp [hz])) h.2]
theorem str_inj {xs ys : List Int} (hx : WF xs) (hy : WF ys) : strOfNums xs = strOfNums ys ↔ xs = ys := by
  refine ⟨fun h => ?_, fun h => by rw [h]⟩
  have h2 : (strOfNums xs).data.toList = (strOfNums ys).data.toList := by rw [h]
  rw [strOfNums_data, strOfNums_data] at h2
  exact map_inj hx hy h2
theorem str_ne {x y : ByteArray} (h : x ≠ y) : (x.toList == y.toList) = false := by
  cases e : (x.toList == y.toList)
  · rfl
  · rw [beq_iff_eq, ByteArray.toList_eq, ByteArray.toList_eq] at e
    exact absurd (by cases x; cases y; simp_all) h
theorem rOpen_short {A : Option Addr} {c n : Nat} {w : World} (hn : n < 2) : Calls Try.prog 26 #[.slice A n c] w fun e w' => e = .returned (.tuple #[.slice none 0 0, .int .i64 9]) ∧ w = w' := by
  have hd : decide ((n : Int) - 2 < 0) = true := decide_eq_true (by omega)
  have hn' : n ≤ 1 := by omega
  clear hn
  go_enter Try.func26, Try.ntmps26
  go_wp2
  go_ret2
  exact ⟨rfl, rfl⟩
theorem rOpen_long {A : Option Addr} {c m : Nat} {xs : List Int} {w : World} (h : CI .u8 w A c xs) (hf : WF xs) (hl : xs.length ≤ 900) (hm : xs.length = m + 2) : Calls Try.prog 26 #[.slice A xs.length c] w fun e w' => ∃ A' n' c', e = .returned (.tuple #[.slice A' n' c', .int .i64 (if valB (xs.drop m) = sumB (xs.take m) then 0 else 8)]) ∧ n' = (if valB (xs.drop m) = sumB (xs.take m) then xs.take m else []).length ∧ CI .u8 w A' c' (if valB (xs.drop m) = sumB (xs.take m) then xs.take m else []) ∧ Below w.heap.size w w' := by
  obtain ⟨i, hi, hz, hs, hbt⟩ := info_parts info8
  have hcut1 : ∀ W : World, (Instr.slice 22 (.slice A xs.length c) none (some (.int .i64 (m : Int))) none).run Try.prog W = .ok (.slice A m c) W := cut_to (P := Try.prog) 22 5 .i64 Try.underlying22 hi A xs.length c (m : Int) (by omega) (by omega) h.le
  have htk := h.take (m := m) (by omega)
  have hlt : (xs.take m).length = m := by rw [List.length_take]; omega
  have hf1 := hf.take m
  have e1 : (xs.length : Int) - 2 = (m : Int) := by omega
  have hlen900 : xs.length ≤ 900 := hl
  have hmm : m ≤ 900 := by omega
  have hd0 : decide ((m : Int) < 0) = false := decide_eq_false (by omega)
  have hse := seal_eq hf hm
  have hsb : (strOfNums (xs.take m ++ putB 2 (sumB (xs.take m))) = strOfNums xs) ↔ valB (xs.drop m) = sumB (xs.take m) := (str_inj (hf1.app (WF.putB _ _)) hf).trans hse
  have HX := Aside0.mk h
  clear hi hz hs hbt hl hm hse
  have HSL := Aside0.mk (fun w hc => rSeal_any (w := w) (A := A) (c := c) (xs := xs.take m) hc hf1 (by omega))
  generalize valB (xs.drop m) = V at hsb
  generalize hys : xs.take m = ys at htk hlt hf1 hsb HSL
  clear hys
  have HC := Aside0.mk htk
  have HF := Aside0.mk hf1
  clear h hf htk hf1
  by_cases hq : V = sumB ys
  · rw [if_pos hq, if_pos hq]
    have hb : ((strOfNums (ys ++ putB 2 (sumB ys))).toList == (strOfNums xs).toList) = true := by
      rw [hsb.2 hq, beq_self_eq_true]
    clear hq hsb
    subst hlt
    generalize ys ++ putB 2 (sumB ys) = zs at hb HSL
    go_enter Try.func26, Try.ntmps26
    go_upto_region 4 with (first | fail)
    have hx0 := HX.out.drew.str
    go_region_with (first | (go_at_call 24; refine (HSL.out _ HC.out.drew).mono ?_; rintro e w3 ⟨r, rfl, ho⟩; obtain ⟨A1, c1, rfl, hc1⟩ := ho.reads; have hx1 := hc1.str; have HB3 := Aside0.mk (below_step (below_drew (Below.refl _ _)) ho.bel); have hx2 := (HX.out.below HB3.out).str; clear ho hc1))
    all_goals (go_wp2; go_ret2; exact ⟨_, _, _, rfl, rfl, HC.out, HB3.out⟩)
  · rw [if_neg hq, if_neg hq]
    have hb : ((strOfNums (ys ++ putB 2 (sumB ys))).toList == (strOfNums xs).toList) = false := str_ne (fun h => hq (hsb.1 h))
    clear hq hsb
    subst hlt
    generalize ys ++ putB 2 (sumB ys) = zs at hb HSL
    go_enter Try.func26, Try.ntmps26
    go_upto_region 4 with (first | fail)
    have hx0 := HX.out.drew.str
    go_region_with (first | (go_at_call 24; refine (HSL.out _ HC.out.drew).mono ?_; rintro e w3 ⟨r, rfl, ho⟩; obtain ⟨A1, c1, rfl, hc1⟩ := ho.reads; have hx1 := hc1.str; have HB3 := Aside0.mk (below_step (below_drew (Below.refl _ _)) ho.bel); have hx2 := (HX.out.below HB3.out).str; clear ho hc1))
    all_goals (go_wp2; go_ret2; exact ⟨_, _, _, rfl, rfl, CI.nil _ _, HB3.out⟩)
theorem rOpen_any {A : Option Addr} {c : Nat} {xs : List Int} {w : World} (h : CI .u8 w A c xs) (hf : WF xs) (hl : xs.length ≤ 900) : Calls Try.prog 26 #[.slice A xs.length c] w fun e w' => ∃ A' c', e = .returned (.tuple #[.slice A' (opB xs).length c', .int .i64 (opE xs)]) ∧ CI .u8 w A' c' (opB xs) ∧ Below w.heap.size w w' := by
  by_cases h2 : xs.length < 2
  · have e1 : opE xs = 9 := by unfold opE; rw [if_pos h2]
    have e2 : opB xs = [] := by unfold opB; rw [e1]; rfl
    rw [e1, e2]
    exact (rOpen_short h2).mono (fun e w' ⟨h3, h4⟩ => ⟨_, _, h3, CI.nil _ _, by rw [← h4]; exact Below.refl _ _⟩)
  · have hm : xs.length = (xs.length - 2) + 2 := by omega
    have e1 : opE xs = if valB (xs.drop (xs.length - 2)) = sumB (xs.take (xs.length - 2)) then 0 else 8 := by
      unfold opE
      rw [if_neg h2]
      by_cases hq : valB (xs.drop (xs.length - 2)) = sumB (xs.take (xs.length - 2))
      · rw [if_pos hq, if_neg (fun h => h hq)]
      · rw [if_neg hq, if_pos hq]
    have e2 : opB xs = if valB (xs.drop (xs.length - 2)) = sumB (xs.take (xs.length - 2)) then xs.take (xs.length - 2) else [] := by
      unfold opB
      rw [e1]
      by_cases hq : valB (xs.drop (xs.length - 2)) = sumB (xs.take (xs.length - 2))
      · rw [if_pos hq, if_pos hq, if_pos rfl]
      · rw [if_neg hq, if_neg hq, if_neg (by decide)]
    rw [e1, e2]
    exact (rOpen_long h hf hl hm).mono (fun e w' ⟨A', n', c', h3, h4, h5, h6⟩ => ⟨A', c', by rw [h3, h4], h5, h6⟩)
end Go.Proofs.Ytjgianmcllkagaa.Wi
