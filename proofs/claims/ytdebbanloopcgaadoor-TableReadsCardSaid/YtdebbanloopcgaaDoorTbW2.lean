/- WiRd, WiRN, WiLives, WiOpen, WiOpens, WiTurnMath, WiBack, WiTurns, laid into one text by wip/tmerge.py. -/
import Derived.Test.YtdebbanloopcgaaDoorTbW1
import Derived.Laws.BitsAllLaws
/- Layer 3 (wire): readers: what a reader's block holds, and what each of its methods answers; the document's Next and End. -/
set_option linter.unusedVariables false
set_option linter.unusedSimpArgs false
namespace Go.Proofs.YtdebbanloopcgaaDoor.Wi
open Go.RowKit Go.Proofs.YtdebbanloopcgaaDoorW.PrintWords Go.Proofs.YtdebbanloopcgaaDoorW.PrintLast Go.Proofs.YtdebbanloopcgaaDoorW.PrintMore
attribute [local go_sem] max2_int min2_int max_two min_two max_three min_three max_four min_four Tryd.underlying103 Tryd.underlying69
theorem add_block (ad : Addr) (i : Nat) : (ad.add i).block = ad.block := by unfold Addr.add; split <;> rfl
theorem CI.off {k : IntKind} {W W' : World} {A : Option Addr} {c : Nat} {xs : List Int} (h : CI k W A c xs) (hb : ∀ ad, A = some ad → W'.heap[ad.block]? = W.heap[ad.block]?) : CI k W' A c xs := by
  obtain ⟨⟨h1, h2, h3⟩, hl⟩ := h
  refine ⟨⟨h1, h2, fun hp => ?_⟩, hl⟩
  obtain ⟨ad, rfl, h4⟩ := h3 hp
  refine ⟨ad, rfl, fun j p hj => ?_⟩
  obtain ⟨us, e1, e2, h5⟩ := h4 j p hj
  refine ⟨us, e1, e2, fun i u hu => ?_⟩
  rw [← h5 i u hu]
  refine World.cell?_of_block ?_
  rw [add_block]
  exact hb ad rfl
/-- A reader: its block, its bytes in a row of bytes. -/
structure RD (W : World) (g : Nat) (r : Rd) : Prop where
  ex : ∃ A c, W.heap[g]? = some (.cells #[.slice A r.b.length c, .int .i64 r.e] 103 (0, 0)) ∧ CI .u8 W A c r.b ∧ (∀ ad, A = some ad → ∃ cells, W.heap[ad.block]? = some (.cells cells 5 (0, 0)))
  wf : WF r.b
section
variable {W W' : World} {g : Nat} {r : Rd}
theorem RD.far (h : RD W g r) (hb : Below W.heap.size W W') : RD W' g r := by
  obtain ⟨⟨A, c, h1, h2, h3⟩, hw⟩ := h
  refine ⟨⟨A, c, blk_below h1 hb, h2.below hb, fun ad e => ?_⟩, hw⟩
  obtain ⟨cells, h4⟩ := h3 ad e
  exact ⟨cells, blk_below h4 hb⟩
/-- Another block, of neither type, turned. -/
theorem RD.kept (h : RD W g r) {b : Nat} {t : TypeId} {cs : Array Value} (hb : W.heap[b]? = some (.cells cs t (0, 0))) (hg : W.grownBy W' (some b)) (h1 : t ≠ 103) (h2 : t ≠ 5) : RD W' g r := by
  obtain ⟨⟨A, c, k1, k2, k3⟩, hw⟩ := h
  refine ⟨⟨A, c, blk_grown k1 hg (fun e => ?_), k2.off (fun ad e => ?_), fun ad e => ?_⟩, hw⟩
  · exact blk_ne hb k1 h1 (Option.some.inj e).symm
  · obtain ⟨cells, h4⟩ := k3 ad e
    exact hg.block _ (blk_lt h4) (fun e2 => blk_ne hb h4 h2 (Option.some.inj e2).symm)
  · obtain ⟨cells, h4⟩ := k3 ad e
    exact ⟨cells, blk_grown h4 hg (fun e2 => blk_ne hb h4 h2 (Option.some.inj e2).symm)⟩
theorem RD.blk (h : RD W g r) : ∃ cells, W.heap[g]? = some (.cells cells 103 (0, 0)) := by
  obtain ⟨⟨A, c, h1, _, _⟩, _⟩ := h
  exact ⟨_, h1⟩
end
theorem rd_make {w0 W : World} {A : Option Addr} {c : Nat} {xs : List Int} (h : OI .u8 5 w0 W (.slice A xs.length c) xs) (hf : WF xs) : RD (W.alloc (.cells #[.slice A xs.length c, .int .i64 0] 103 (0, 0))) W.heap.size ⟨xs, 0⟩ := by
  obtain ⟨A', c', e, hc⟩ := h.reads
  cases e
  refine ⟨⟨A, c, blk_new _ _, hc.below (below_alloc (Below.refl _ _) _), fun ad e => ?_⟩, hf⟩
  subst e
  obtain ⟨_, cells, h4⟩ := h.typed ad.block (by simp [Value.ownBlock])
  exact ⟨cells, blk_alloc h4 _⟩
theorem read_any {A : Option Addr} {c : Nat} {xs : List Int} {w : World} (h : CI .u8 w A c xs) (hf : WF xs) (hl : xs.length ≤ 1000) :
    Calls Tryd.prog 31 #[.slice A xs.length c] w fun e w' => ∃ g, e = .returned (.pointer (some ⟨g, 0, none⟩)) ∧ RD w' g ⟨xs, 0⟩ ∧ Below w.heap.size w w' ∧ w.heap.size ≤ g := by
  have HC := Aside0.mk (clone_any h hl)
  have HF := Aside0.mk hf
  clear h hf hl
  go_enter Tryd.func31, Tryd.ntmps31
  go_wp2_with (first | (go_at_call 54; refine HC.out.mono ?_; clear HC; rintro e w1 ⟨v, rfl, ho⟩; obtain ⟨A1, c1, rfl, hc1⟩ := ho.reads; have HO := Aside0.mk ho; clear ho hc1))
  go_ret
  exact ⟨_, rfl, rd_make HO.out HF.out, below_alloc HO.out.bel _, HO.out.bel.size⟩
theorem err_any {g : Nat} {r : Rd} {w : World} (h : RD w g r) : Calls Tryd.prog 33 #[.pointer (some ⟨g, 0, none⟩)] w fun e w' => e = .returned (.int .i64 r.e) ∧ w = w' := by
  obtain ⟨⟨A, c, h1, _, _⟩, _⟩ := h
  have c1 : w.cell? ⟨g, 1, none⟩ = some (.int .i64 r.e) := (blk_cell h1 1).trans rfl
  clear h1
  go_enter Tryd.func33, Tryd.ntmps33
  go_wp2
  go_ret
  exact ⟨rfl, rfl⟩
theorem left_any {g : Nat} {r : Rd} {w : World} (h : RD w g r) : Calls Tryd.prog 57 #[.pointer (some ⟨g, 0, none⟩)] w fun e w' => e = .returned (.int .i64 (r.b.length : Nat)) ∧ w = w' := by
  obtain ⟨⟨A, c, h1, _, _⟩, _⟩ := h
  have c0 : w.cell? ⟨g, 0, none⟩ = some (.slice A r.b.length c) := (blk_cell h1 0).trans rfl
  clear h1
  go_enter Tryd.func57, Tryd.ntmps57
  go_wp2
  go_ret
  exact ⟨rfl, rfl⟩
theorem end_any {g : Nat} {r : Rd} {w : World} (h : RD w g r) : Calls Tryd.prog 35 #[.pointer (some ⟨g, 0, none⟩)] w fun e w' => e = .returned (.int .i64 (endE r)) ∧ w = w' := by
  have HE := Aside0.mk (err_any h)
  have HL := Aside0.mk (left_any h)
  clear h
  by_cases h0 : r.e = 0
  · by_cases h1 : 0 < r.b.length
    · have e : endE r = 8 := by unfold endE; rw [if_pos ⟨h0, h1⟩]
      have d0 : (r.e == 0) = true := beq_iff_eq.mpr h0
      have d1 : decide (0 < r.b.length) = true := decide_eq_true h1
      rw [e]
      clear h0 h1 e
      go_enter Tryd.func35, Tryd.ntmps35
      go_wp2_with (first | (go_at_call 33; refine HE.out.mono ?_; rintro e w' ⟨rfl, rfl⟩) | (go_at_call 57; refine HL.out.mono ?_; rintro e w' ⟨rfl, rfl⟩))
      go_ret
      exact ⟨rfl, rfl⟩
    · have e : endE r = r.e := by unfold endE; rw [if_neg (fun h => h1 h.2)]
      have d0 : (r.e == 0) = true := beq_iff_eq.mpr h0
      have d1 : decide (0 < r.b.length) = false := decide_eq_false h1
      rw [e]
      clear h0 h1 e
      go_enter Tryd.func35, Tryd.ntmps35
      go_wp2_with (first | (go_at_call 33; refine HE.out.mono ?_; rintro e w' ⟨rfl, rfl⟩) | (go_at_call 57; refine HL.out.mono ?_; rintro e w' ⟨rfl, rfl⟩))
      go_ret
      exact ⟨rfl, rfl⟩
  · have e : endE r = r.e := by unfold endE; rw [if_neg (fun h => h0 h.1)]
    have d0 : (r.e == 0) = false := beq_eq_false_iff_ne.mpr h0
    rw [e]
    clear h0 e
    go_enter Tryd.func35, Tryd.ntmps35
    go_wp2_with (first | (go_at_call 33; refine HE.out.mono ?_; rintro e w' ⟨rfl, rfl⟩) | (go_at_call 57; refine HL.out.mono ?_; rintro e w' ⟨rfl, rfl⟩))
    go_ret
    exact ⟨rfl, rfl⟩
theorem grown_set (w : World) (b i : Nat) (v : Value) : w.grownBy (w.setCell ⟨b, i, none⟩ v) (some b) :=
  ⟨rfl, rfl, rfl, by simp [World.setCell], fun k _ hk => Below.heap_setCell _ _ _ _ (fun e => hk (by rw [e]))⟩
theorem next_err {g : Nat} {r : Rd} {w : World} (h : RD w g r) (n : Int) (he : r.e ≠ 0) : Calls Tryd.prog 32 #[.pointer (some ⟨g, 0, none⟩), .int .i64 n] w fun e w' => e = .returned (.int .i64 0) ∧ w = w' := by
  have HE := Aside0.mk (err_any h)
  have d0 : (r.e != 0) = true := bne_iff_ne.mpr he
  clear h he
  go_enter Tryd.func32, Tryd.ntmps32
  go_wp2_with (first | (go_at_call 33; refine HE.out.mono ?_; rintro e w' ⟨rfl, rfl⟩))
  go_ret
  exact ⟨rfl, rfl⟩
theorem next_stop {g : Nat} {r : Rd} {w : World} (h : RD w g r) (n : Int) (he : r.e = 0) (q : Int) (hq : (lim n = 0 ∧ q = 8) ∨ (lim n ≠ 0 ∧ (r.b.length : Int) < n ∧ q = 9)) : Calls Tryd.prog 32 #[.pointer (some ⟨g, 0, none⟩), .int .i64 n] w fun e w' => e = .returned (.int .i64 0) ∧ RD w' g ⟨[], q⟩ ∧ w.grownBy w' (some g) := by
  have HE := Aside0.mk (err_any h)
  have HI : ∀ w, Calls Tryd.prog 53 #[.int .i64 n] w fun e w' => e = .returned (.bool (lim n != 0)) ∧ w = w' := is_any n
  obtain ⟨⟨A, c, h1, _, _⟩, _⟩ := h
  have c0 : w.cell? ⟨g, 0, none⟩ = some (.slice A r.b.length c) := (blk_cell h1 0).trans rfl
  have c1 : w.cell? ⟨g, 1, none⟩ = some (.int .i64 r.e) := (blk_cell h1 1).trans rfl
  have f0 := blk_frozen h1 0
  have f1 := blk_frozen h1 1
  have H := Aside0.mk h1
  clear h1
  obtain ⟨b, e⟩ := r
  obtain rfl : e = 0 := he
  have fin : RD ((w.setCell ⟨g, 0, none⟩ (.slice none 0 0)).setCell ⟨g, 1, none⟩ (.int .i64 q)) g ⟨[], q⟩ := by
    have hb2 := blk_put H.out 0 (.slice none 0 0) rfl
    have hb3 := blk_put hb2 1 (.int .i64 q) rfl
    exact ⟨⟨none, 0, hb3, CI.nil _ _, fun ad e => by cases e⟩, WF.nil⟩
  have FIN := Aside0.mk fin
  clear fin
  rcases hq with ⟨hl, rfl⟩ | ⟨hl, hn, rfl⟩
  · have hb : (lim n != 0) = false := by rw [hl]; rfl
    rw [hb] at HI
    have HI := Aside0.mk HI
    clear hl hb
    go_enter Tryd.func32, Tryd.ntmps32
    go_wp2_with (first | (go_at_call 33; refine HE.out.mono ?_; rintro e w' ⟨rfl, rfl⟩) | (go_at_call 53; refine (HI.out _).mono ?_; rintro e w' ⟨rfl, rfl⟩))
    go_ret
    exact ⟨rfl, FIN.out, World.grownBy.trans (grown_set w g 0 _) (grown_set _ g 1 _)⟩
  · have hb : (lim n != 0) = true := bne_iff_ne.mpr hl
    rw [hb] at HI
    have HI := Aside0.mk HI
    have hd : decide ((b.length : Int) < n) = true := decide_eq_true hn
    clear hl hb hn
    go_enter Tryd.func32, Tryd.ntmps32
    go_wp2_with (first | (go_at_call 33; refine HE.out.mono ?_; rintro e w' ⟨rfl, rfl⟩) | (go_at_call 53; refine (HI.out _).mono ?_; rintro e w' ⟨rfl, rfl⟩))
    go_ret
    exact ⟨rfl, FIN.out, World.grownBy.trans (grown_set w g 0 _) (grown_set _ g 1 _)⟩
theorem or_byte {a x : Int} (h0 : 0 ≤ a) (h1 : a < 16777216) (h2 : 0 ≤ x) (h3 : x < 256) : bits .or .i64 (a * 256) x = 256 * a + x := by
  rw [bits_join .i64 62 (by decide) (fun n h0 h1 => by rw [IntKind.wrap_i64]; omega) 8 _ _ (by omega) (by omega) (by omega) (by omega) (by omega) (by omega)]
  omega
theorem val_lt {xs : List Int} (h : WF xs) (hl : xs.length ≤ 3) : 0 ≤ valB xs ∧ valB xs < 16777216 := by
  rcases xs with _ | ⟨a, _ | ⟨b, _ | ⟨c, _ | ⟨d, t⟩⟩⟩⟩
  · simp [valB]
  · have := h a (by simp); simp [valB]; omega
  · have := h a (by simp); have := h b (by simp); simp [valB]; omega
  · have := h a (by simp); have := h b (by simp); have := h c (by simp); simp [valB]; omega
  · simp at hl
theorem next_ok {g : Nat} {xs : List Int} {w : World} (h : RD w g ⟨xs, 0⟩) {m : Nat} (hl : lim m ≠ 0) (hm : m ≤ xs.length) : Calls Tryd.prog 32 #[.pointer (some ⟨g, 0, none⟩), .int .i64 m] w fun e w' => e = .returned (.int .i64 (valB (xs.take m))) ∧ RD w' g ⟨xs.drop m, 0⟩ ∧ w.grownBy w' (some g) := by
  have HE := Aside0.mk (err_any h)
  have HI : ∀ w, Calls Tryd.prog 53 #[.int .i64 (m : Int)] w fun e w' => e = .returned (.bool (lim m != 0)) ∧ w = w' := is_any m
  have hb : (lim m != 0) = true := bne_iff_ne.mpr hl
  rw [hb] at HI
  have HI := Aside0.mk HI
  have hm4 : m ≤ 4 := by rcases lim_of hl with h | h | h <;> omega
  obtain ⟨⟨A, c, h1, h2, h3⟩, hf⟩ := h
  simp only [] at h1 h2 hf
  obtain ⟨i, hi, hz, hs, hbt⟩ := info_parts info8
  have hcut1 : ∀ W : World, (Instr.slice 29 (.slice A xs.length c) none (some (.int .i64 (m : Int))) none).run Tryd.prog W = .ok (.slice A m c) W := cut_to (P := Tryd.prog) 29 5 .i64 Tryd.underlying29 hi A xs.length c (m : Int) (by omega) (by omega) h2.le
  have hcut2 : ∀ W : World, (Instr.slice 29 (.slice A xs.length c) (some (.int .i64 (m : Int))) none none).run Tryd.prog W = .ok (.slice (if c = m then A else A.map (·.add (m * 1))) (xs.length - m) (c - m)) W := cut_from (P := Tryd.prog) 29 5 .i64 Tryd.underlying29 hi 1 hs A xs.length c (m : Int) (by omega) (by omega)
  rw [Nat.mul_one] at hcut2
  have hd2 := h2.drop hm
  have hA2 : ∀ ad, (if c = m then A else A.map (·.add m)) = some ad → ∃ cells, w.heap[ad.block]? = some (.cells cells 5 (0, 0)) := fun ad e => by
    split at e
    · exact h3 ad e
    · rcases A with _ | a0
      · cases e
      · obtain ⟨cells, h4⟩ := h3 a0 rfl
        cases e
        exact ⟨cells, by rw [add_block]; exact h4⟩
  have htk := h2.take hm
  generalize (if c = m then A else A.map (·.add m)) = A2 at hcut2 hd2 hA2
  have c0 : w.cell? ⟨g, 0, none⟩ = some (.slice A xs.length c) := (blk_cell h1 0).trans rfl
  have f0 := blk_frozen h1 0
  have fin : RD (w.setCell ⟨g, 0, none⟩ (.slice A2 (xs.length - m) (c - m))) g ⟨xs.drop m, 0⟩ := by
    have hb2 := blk_put h1 0 (.slice A2 (xs.length - m) (c - m)) rfl
    refine ⟨⟨A2, c - m, by rw [List.length_drop]; exact hb2, hd2.off (fun ad e => ?_), fun ad e => ?_⟩, hf.drop m⟩
    · obtain ⟨cells, h4⟩ := hA2 ad e
      exact (blk_far h4 (p := ⟨g, 0, none⟩) (blk_ne h4 h1 (by decide)) _).trans h4.symm
    · obtain ⟨cells, h4⟩ := hA2 ad e
      exact ⟨cells, blk_far h4 (p := ⟨g, 0, none⟩) (blk_ne h4 h1 (by decide)) _⟩
  have FIN := Aside0.mk fin
  have hlt : (xs.take m).length = m := by rw [List.length_take]; omega
  have HT := Aside0.mk htk
  have HF := Aside0.mk (hf.take m)
  have hd : decide (xs.length < m) = false := decide_eq_false (by omega)
  clear h1 h2 h3 hl hb hi hz hs hbt hd2 hA2 htk fin hf hm
  generalize xs.take m = ys at HT HF hlt
  generalize xs.drop m = zs at FIN
  generalize xs.length = len at *
  subst hlt
  go_enter Tryd.func32, Tryd.ntmps32
  go_wp2_with (first | (go_at_call 33; refine HE.out.mono ?_; rintro e w' ⟨rfl, rfl⟩) | (go_at_call 53; refine (HI.out _).mono ?_; rintro e w' ⟨rfl, rfl⟩))
  go_loopw [6, 42] (fun v6 v42 wr => ∃ k : Nat, k ≤ ys.length ∧ v6 = .int .i64 (valB (ys.take k)) ∧ v42 = .int .i64 k ∧ Aside0 (w = wr)) (fun _ v42 _ => ys.length - (intOf v42).toNat)
  case atStart => exact ⟨0, by omega, rfl, rfl, ⟨rfl⟩⟩
  case round =>
    obtain ⟨k, hk, rfl, rfl, HWW⟩ := hrel
    obtain rfl := HWW.out
    clear HWW
    by_cases hlt : k < ys.length
    · obtain ⟨ad, rfl, hcell⟩ := HT.out.at_ hlt
      have hr := wf_rd HF.out hlt
      have hv := val_lt (HF.out.take k) (by rw [List.length_take]; omega)
      have hs : valB (ys.take (k + 1)) = 256 * valB (ys.take k) + rd ys k := by rw [take_succ_rd hlt, val_snoc]
      have HS := Aside0.mk hs
      have hor := or_byte hv.1 hv.2 hr.1 hr.2
      clear hs
      generalize rd ys k = x at hcell hr HS hor
      generalize valB (ys.take k) = s at hv HS hor
      have e1 : wrap64 x = x := w64 (by omega) (by omega)
      have e2 : wrap64 (s * 256) = s * 256 := w64 (by omega) (by omega)
      have hk0 : 0 ≤ (k : Int) := by omega
      have hk1 : (k : Int) < ys.length := by omega
      go_wp2
      go_roundw
      case rel => exact ⟨k + 1, by omega, by rw [HS.out], by go_num, ⟨by first | rfl | trivial⟩⟩
      case measure => simp [intOf]; omega
    · have hk' : ys.take k = ys := List.take_of_length_le (by omega)
      have hdk : decide ((k : Int) < (ys.length : Int)) = false := decide_eq_false (by omega)
      rw [hk']
      clear hk'
      go_wp2
      go_ret
      exact ⟨rfl, FIN.out, grown_set w g 0 _⟩
theorem next_any {g : Nat} {r : Rd} {w : World} (h : RD w g r) (n : Int) : Calls Tryd.prog 32 #[.pointer (some ⟨g, 0, none⟩), .int .i64 n] w fun e w' => e = .returned (.int .i64 (nextV r n)) ∧ RD w' g (next r n) ∧ w.grownBy w' (some g) := by
  by_cases he : r.e = 0
  · by_cases hl : lim n = 0
    · rw [show nextV r n = 0 by simp [nextV, he, hl], show next r n = ⟨[], 8⟩ by simp [next, he, hl]]
      exact next_stop h n he 8 (.inl ⟨hl, rfl⟩)
    · by_cases hn : (r.b.length : Int) < n
      · rw [show nextV r n = 0 by simp [nextV, he, hl, hn], show next r n = ⟨[], 9⟩ by simp [next, he, hl, hn]]
        exact next_stop h n he 9 (.inr ⟨hl, hn, rfl⟩)
      · rw [show nextV r n = valB (r.b.take n.toNat) by simp [nextV, he, hl, hn], show next r n = ⟨r.b.drop n.toNat, 0⟩ by simp [next, he, hl, hn]]
        obtain ⟨b, e⟩ := r
        obtain rfl : e = 0 := he
        have h4 := lim_of hl
        obtain ⟨m, rfl⟩ : ∃ m : Nat, n = m := ⟨n.toNat, by omega⟩
        exact next_ok h hl (by simp only [] at hn; omega)
  · rw [show nextV r n = 0 by simp [nextV, he], show next r n = r by simp [next, he]]
    exact (next_err h n he).mono (fun e w' ⟨h1, h2⟩ => ⟨h1, by rw [← h2]; exact h, by rw [← h2]; exact World.grownBy.refl _ _⟩)
end Go.Proofs.YtdebbanloopcgaaDoor.Wi

/- Layer 3 (wire): the document's reader: Next and End. -/
set_option linter.unusedVariables false
set_option linter.unusedSimpArgs false
namespace Go.Proofs.YtdebbanloopcgaaDoor.Wi
open Go.RowKit Go.Proofs.YtdebbanloopcgaaDoorW.PrintWords Go.Proofs.YtdebbanloopcgaaDoorW.PrintLast Go.Proofs.YtdebbanloopcgaaDoorW.PrintMore
attribute [local go_sem] max2_int min2_int max_two min_two max_three min_three max_four min_four Tryd.underlying69
theorem rEnd_any {A : Option Addr} {c : Nat} (r : Rd) (w : World) : Calls Tryd.prog 42 #[.agg #[.slice A r.b.length c, .int .i64 r.e]] w fun e w' => e = .returned (.int .i64 (endE r)) ∧ Below w.heap.size w w' := by
  by_cases h0 : r.e = 0
  · by_cases h1 : 0 < r.b.length
    · have e : endE r = 8 := by unfold endE; rw [if_pos ⟨h0, h1⟩]
      have d0 : (r.e == 0) = true := beq_iff_eq.mpr h0
      have d1 : decide (0 < r.b.length) = true := decide_eq_true h1
      rw [e]
      clear h0 h1 e
      go_enter Tryd.func42, Tryd.ntmps42
      go_wp2
      go_ret
      exact ⟨rfl, below_alloc (Below.refl _ _) _⟩
    · have e : endE r = r.e := by unfold endE; rw [if_neg (fun h => h1 h.2)]
      have d0 : (r.e == 0) = true := beq_iff_eq.mpr h0
      have d1 : decide (0 < r.b.length) = false := decide_eq_false h1
      rw [e]
      clear h0 h1 e
      go_enter Tryd.func42, Tryd.ntmps42
      go_wp2
      go_ret
      exact ⟨rfl, below_alloc (Below.refl _ _) _⟩
  · have e : endE r = r.e := by unfold endE; rw [if_neg (fun h => h0 h.1)]
    have d0 : (r.e == 0) = false := beq_eq_false_iff_ne.mpr h0
    rw [e]
    clear h0 e
    go_enter Tryd.func42, Tryd.ntmps42
    go_wp2
    go_ret
    exact ⟨rfl, below_alloc (Below.refl _ _) _⟩
theorem rNext_err {A : Option Addr} {c : Nat} {r : Rd} {w : World} (n : Int) (he : r.e ≠ 0) : Calls Tryd.prog 59 #[.agg #[.slice A r.b.length c, .int .i64 r.e], .int .i64 n] w fun e w' => e = .returned (.tuple #[.agg #[.slice A r.b.length c, .int .i64 r.e], .int .i64 0]) ∧ Below w.heap.size w w' := by
  have d0 : (r.e != 0) = true := bne_iff_ne.mpr he
  clear he
  go_enter Tryd.func59, Tryd.ntmps59
  go_wp2
  refine bodyPost_ret (results_ct rfl _ _ (w.heap.size + 1) 69 #[.slice A r.b.length c, .int .i64 r.e] (0, 0) _ rfl ?hheap Tryd.underlying69 rfl (by kernel_rfl)) rfl ?_
  case hheap => simpa using heap_alloc_new (w.alloc (.cells #[.slice A r.b.length c, .int .i64 r.e] 69)) (.cells #[.slice A r.b.length c, .int .i64 r.e] 69)
  exact ⟨rfl, below_alloc (below_alloc (Below.refl _ _) _) _⟩
theorem rNext_stop {A : Option Addr} {c : Nat} {b : List Int} {w : World} (n : Int) (q : Int) (hq : (lim n = 0 ∧ q = 8) ∨ (lim n ≠ 0 ∧ (b.length : Int) < n ∧ q = 9)) : Calls Tryd.prog 59 #[.agg #[.slice A b.length c, .int .i64 0], .int .i64 n] w fun e w' => e = .returned (.tuple #[.agg #[.slice none 0 0, .int .i64 q], .int .i64 0]) ∧ Below w.heap.size w w' := by
  have HM : ∀ w, Calls Tryd.prog 58 #[.int .i64 n] w fun e w' => e = .returned (.int .i64 (lim n)) ∧ w = w' := most_any n
  rcases hq with ⟨hl, rfl⟩ | ⟨hl, hn, rfl⟩
  · rw [hl] at HM
    have HM := Aside0.mk HM
    clear hl
    go_enter Tryd.func59, Tryd.ntmps59
    go_wp2_with (first | (go_at_call 58; refine (HM.out _).mono ?_; rintro e w' ⟨rfl, rfl⟩))
    refine bodyPost_ret (results_ct rfl _ _ (w.heap.size + 1) 69 #[.slice none 0 0, .int .i64 8] (0, 0) _ rfl ?hheap Tryd.underlying69 rfl (by kernel_rfl)) rfl ?_
    case hheap => simpa using heap_alloc_new (w.alloc (.cells #[.slice A b.length c, .int .i64 0] 69)) (.cells #[.slice none 0 0, .int .i64 8] 69)
    exact ⟨rfl, below_alloc (below_alloc (Below.refl _ _) _) _⟩
  · have hb : (lim n == 0) = false := beq_eq_false_iff_ne.mpr hl
    have hd : decide ((b.length : Int) < n) = true := decide_eq_true hn
    clear hl hn
    revert HM hb
    generalize lim n = L
    intro HM hb
    replace HM := Aside0.mk HM
    go_enter Tryd.func59, Tryd.ntmps59
    go_wp2_with (first | (go_at_call 58; refine (HM.out _).mono ?_; rintro e w' ⟨rfl, rfl⟩))
    refine bodyPost_ret (results_ct rfl _ _ (w.heap.size + 1) 69 #[.slice none 0 0, .int .i64 9] (0, 0) _ rfl ?hheap2 Tryd.underlying69 rfl (by kernel_rfl)) rfl ?_
    case hheap2 => simpa using heap_alloc_new (w.alloc (.cells #[.slice A b.length c, .int .i64 0] 69)) (.cells #[.slice none 0 0, .int .i64 9] 69)
    exact ⟨rfl, below_alloc (below_alloc (Below.refl _ _) _) _⟩
theorem rNext_ok {A : Option Addr} {c : Nat} {xs : List Int} {w0 w : World} (h0 : CI .u8 w0 A c xs) (hb0 : Below w0.heap.size w0 w) (hf : WF xs) {m : Nat} (hl : lim m ≠ 0) (hm : m ≤ xs.length) : Calls Tryd.prog 59 #[.agg #[.slice A xs.length c, .int .i64 0], .int .i64 m] w fun e w' => ∃ A', e = .returned (.tuple #[.agg #[.slice A' (xs.drop m).length (c - m), .int .i64 0], .int .i64 (valB (xs.take m))]) ∧ CI .u8 w0 A' (c - m) (xs.drop m) ∧ Below w.heap.size w w' := by
  have HM : ∀ w, Calls Tryd.prog 58 #[.int .i64 (m : Int)] w fun e w' => e = .returned (.int .i64 (lim m)) ∧ w = w' := most_any m
  have hm4 : m ≤ 4 := by rcases lim_of hl with h | h | h <;> omega
  obtain ⟨i, hi, hz, hs, hbt⟩ := info_parts info8
  have hcut2 : ∀ W : World, (Instr.slice 29 (.slice A xs.length c) (some (.int .i64 (m : Int))) none none).run Tryd.prog W = .ok (.slice (if c = m then A else A.map (·.add (m * 1))) (xs.length - m) (c - m)) W := cut_from (P := Tryd.prog) 29 5 .i64 Tryd.underlying29 hi 1 hs A xs.length c (m : Int) (by omega) (by omega)
  rw [Nat.mul_one] at hcut2
  have hd2 := Aside0.mk (h0.drop hm)
  have h := h0.below hb0
  generalize (if c = m then A else A.map (·.add m)) = A2 at hcut2 hd2
  have hlt : (xs.drop m).length = xs.length - m := List.length_drop
  have HLT := Aside0.mk hlt
  clear hlt
  have HT := Aside0.mk h
  have HF := Aside0.mk hf
  have hd : decide (xs.length < m) = false := decide_eq_false (by omega)
  have hb : (lim (m : Int) == 0) = false := beq_eq_false_iff_ne.mpr hl
  clear h h0 hb0 hf hl hi hz hs hbt
  revert HM hb
  generalize lim (m : Int) = L
  intro HM hb
  replace HM := Aside0.mk HM
  obtain ⟨W1, hW1⟩ : ∃ W1, W1 = ((w.alloc (.cells #[.slice A xs.length c, .int .i64 0] 69)).alloc (.cells #[.slice none 0 0, .int .i64 0] 69)) := ⟨_, rfl⟩
  have b0 : W1.heap[w.heap.size]? = some (.cells #[.slice A xs.length c, .int .i64 0] 69 (0, 0)) := by rw [hW1]; exact blk_alloc (blk_new _ _) _
  have b1 : W1.heap[w.heap.size + 1]? = some (.cells #[.slice none 0 0, .int .i64 0] 69 (0, 0)) := by rw [hW1]; simpa using heap_alloc_new (w.alloc (.cells #[.slice A xs.length c, .int .i64 0] 69)) (.cells #[.slice none 0 0, .int .i64 0] 69)
  have hbel : Below w.heap.size w W1 := by rw [hW1]; exact below_alloc (below_alloc (Below.refl _ _) _) _
  have c0 : W1.cell? ⟨w.heap.size, 0, none⟩ = some (.slice A xs.length c) := (blk_cell b0 0).trans rfl
  have d0 : W1.cell? ⟨w.heap.size + 1, 0, none⟩ = some (.slice none 0 0) := (blk_cell b1 0).trans rfl
  have d1 : W1.cell? ⟨w.heap.size + 1, 1, none⟩ = some (.int .i64 0) := (blk_cell b1 1).trans rfl
  have f0 := blk_frozen b1 0
  have f1 := blk_frozen b1 1
  have B0 := Aside0.mk b0
  have B1 := Aside0.mk b1
  have BL := Aside0.mk hbel
  clear b0 b1 hbel
  go_enter Tryd.func59, Tryd.ntmps59
  go_wp2_with (first | (go_at_call 58; refine (HM.out _).mono ?_; rintro e w' ⟨rfl, rfl⟩))
  rw [← hW1]
  clear hW1
  go_loopw [6, 7] (fun v6 v7 wr => ∃ k : Nat, k ≤ m ∧ v6 = .int .i64 (valB (xs.take k)) ∧ v7 = .int .i64 k ∧ Aside0 (W1 = wr)) (fun _ v7 _ => m - (intOf v7).toNat)
  case atStart => exact ⟨0, by omega, rfl, rfl, ⟨rfl⟩⟩
  case round =>
    obtain ⟨k, hk, rfl, rfl, HWW⟩ := hrel
    obtain rfl := HWW.out
    clear HWW
    by_cases hlt : k < m
    · have hkx : k < xs.length := by omega
      obtain ⟨ad, rfl, hcell⟩ := (HT.out.below BL.out).at_ hkx
      have hr := wf_rd HF.out hkx
      have hv := val_lt (HF.out.take k) (by rw [List.length_take]; omega)
      have hs : valB (xs.take (k + 1)) = 256 * valB (xs.take k) + rd xs k := by rw [take_succ_rd hkx, val_snoc]
      have HS := Aside0.mk hs
      clear hs
      generalize rd xs k = x at hcell hr HS
      generalize valB (xs.take k) = s at hv HS
      have e1 : wrap64 x = x := w64 (by omega) (by omega)
      have e2 : wrap64 (256 * s) = 256 * s := w64 (by omega) (by omega)
      have e3 : wrap64 (256 * s + x) = 256 * s + x := w64 (by omega) (by omega)
      have hk0 : 0 ≤ (k : Int) := by omega
      have hk1 : (k : Int) < xs.length := by omega
      have hdk : decide ((k : Int) < (m : Int)) = true := decide_eq_true (by omega)
      go_wp2
      go_roundw
      case rel => exact ⟨k + 1, by omega, by rw [HS.out], by go_num, ⟨by first | rfl | trivial⟩⟩
      case measure => simp [intOf]; omega
    · obtain rfl : k = m := by omega
      have hdk : decide ((k : Int) < (k : Int)) = false := decide_eq_false (by omega)
      go_wp2
      refine bodyPost_ret (results_ct rfl _ _ (w.heap.size + 1) 69 #[.slice A2 (xs.length - k) (c - k), .int .i64 0] (0, 0) _ rfl ?hheap Tryd.underlying69 rfl (by kernel_rfl)) rfl ?_
      case hheap => exact blk_put (blk_put B1.out 0 _ rfl) 1 _ rfl
      exact ⟨A2, by rw [HLT.out]; rfl, hd2.out, below_set (below_set BL.out (by simp)) (by simp)⟩
theorem next_wf {r : Rd} (h : WF r.b) (n : Int) : WF (next r n).b := by
  unfold next
  split
  · exact h
  · split
    · exact WF.nil
    · split
      · exact WF.nil
      · exact h.drop _
theorem rNext_any {A : Option Addr} {c : Nat} {r : Rd} {w0 w : World} (h : CI .u8 w0 A c r.b) (hb0 : Below w0.heap.size w0 w) (hf : WF r.b) (n : Int) : Calls Tryd.prog 59 #[.agg #[.slice A r.b.length c, .int .i64 r.e], .int .i64 n] w fun e w' => ∃ A' c', e = .returned (.tuple #[.agg #[.slice A' (next r n).b.length c', .int .i64 (next r n).e], .int .i64 (nextV r n)]) ∧ CI .u8 w0 A' c' (next r n).b ∧ Below w.heap.size w w' := by
  by_cases he : r.e = 0
  · by_cases hl : lim n = 0
    · rw [show nextV r n = 0 by simp [nextV, he, hl], show next r n = ⟨[], 8⟩ by simp [next, he, hl], he]
      exact (rNext_stop n 8 (.inl ⟨hl, rfl⟩)).mono (fun e w' ⟨h1, h2⟩ => ⟨none, 0, h1, CI.nil _ _, h2⟩)
    · by_cases hn : (r.b.length : Int) < n
      · rw [show nextV r n = 0 by simp [nextV, he, hl, hn], show next r n = ⟨[], 9⟩ by simp [next, he, hl, hn], he]
        exact (rNext_stop n 9 (.inr ⟨hl, hn, rfl⟩)).mono (fun e w' ⟨h1, h2⟩ => ⟨none, 0, h1, CI.nil _ _, h2⟩)
      · rw [show nextV r n = valB (r.b.take n.toNat) by simp [nextV, he, hl, hn], show next r n = ⟨r.b.drop n.toNat, 0⟩ by simp [next, he, hl, hn], he]
        have h4 := lim_of hl
        obtain ⟨m, rfl⟩ : ∃ m : Nat, n = m := ⟨n.toNat, by omega⟩
        exact (rNext_ok h hb0 hf hl (by omega)).mono (fun e w' ⟨A', h1, h2, h3⟩ => ⟨A', _, h1, h2, h3⟩)
  · rw [show nextV r n = 0 by simp [nextV, he], show next r n = r by simp [next, he]]
    exact (rNext_err n he).mono (fun e w' ⟨h1, h2⟩ => ⟨A, c, h1, h, h2⟩)
end Go.Proofs.YtdebbanloopcgaaDoor.Wi

/- Layer 3 (wire): the document's example; widths. -/
set_option linter.unusedVariables false
set_option linter.unusedSimpArgs false
namespace Go.Proofs.YtdebbanloopcgaaDoor.Wi
open Go.RowKit Go.Proofs.YtdebbanloopcgaaDoorW.PrintWords Go.Proofs.YtdebbanloopcgaaDoorW.PrintLast Go.Proofs.YtdebbanloopcgaaDoorW.PrintMore
attribute [local go_sem] max2_int min2_int max_two min_two max_three min_three max_four min_four
theorem CI.str {W : World} {A : Option Addr} {c : Nat} {xs : List Int} (h : CI .u8 W A c xs) : (convert 29 9 (.slice A xs.length c)).run Tryd.prog W = .ok (.string (strOfNums xs)) W :=
  Kd.C_string Tryd.underlying29 Tryd.underlying5 Tryd.underlying9 h.c
theorem put_ex (w : World) : Calls Tryd.prog 24 #[.slice none 0 0, .int .i64 2, .int .i64 258] w fun e w1 => ∃ A c, e = .returned (.tuple #[.slice A 2 c, .int .i64 0]) ∧ Below w.heap.size w w1 ∧ CI .u8 w1 A c [1, 2] := by
  refine (put_ok (n := 2) (v := 258) (w := w) (by decide) (CI.nil .u8 w) (by decide)).mono ?_
  rintro e w1 ⟨r, rfl, ho⟩
  obtain ⟨A1, c1, rfl, hc⟩ := ho.reads
  exact ⟨A1, c1, rfl, ho.bel, hc⟩
theorem wf12 : WF [1, 2] := by intro x hx; simp at hx; omega
theorem next_ex {g : Nat} {w : World} (h : RD w g ⟨[1, 2], 0⟩) : Calls Tryd.prog 32 #[.pointer (some ⟨g, 0, none⟩), .int .i64 2] w fun e w' => e = .returned (.int .i64 258) ∧ RD w' g ⟨[], 0⟩ ∧ w.grownBy w' (some g) := next_any h 2
theorem u64_nn (n : Int) : 0 ≤ IntKind.u64.wrap n := by
  simp only [IntKind.wrap, IntKind.bits, IntKind.signed]
  simp
  omega
def wd (n : Int) : Int := if IntKind.u64.wrap n % 3 = 0 then 1 else if IntKind.u64.wrap n % 3 = 1 then 2 else 4
theorem wd_of (n : Int) : wd n = 1 ∨ wd n = 2 ∨ wd n = 4 := by
  unfold wd
  split
  · exact .inl rfl
  · split
    · exact .inr (.inl rfl)
    · exact .inr (.inr rfl)
end Go.Proofs.YtdebbanloopcgaaDoor.Wi

/- Layer 3 (wire): Open, of the program and of the document. -/
set_option linter.unusedVariables false
set_option linter.unusedSimpArgs false
namespace Go.Proofs.YtdebbanloopcgaaDoor.Wi
open Go.RowKit Go.Proofs.YtdebbanloopcgaaDoorW.PrintWords Go.Proofs.YtdebbanloopcgaaDoorW.PrintLast Go.Proofs.YtdebbanloopcgaaDoorW.PrintMore
attribute [local go_sem] max2_int min2_int max_two min_two max_three min_three max_four min_four
def opE (xs : List Int) : Int := if xs.length < 2 then 9 else if valB (xs.drop (xs.length - 2)) ≠ sumB (xs.take (xs.length - 2)) then 8 else 0
def opB (xs : List Int) : List Int := if opE xs = 0 then xs.take (xs.length - 2) else []
theorem CI.drew {k : IntKind} {W : World} {A : Option Addr} {c : Nat} {xs : List Int} (h : CI k W A c xs) : CI k W.drew A c xs := h.below (below_drew (Below.refl _ _))
theorem RD.drew {W : World} {g : Nat} {r : Rd} (h : RD W g r) : RD W.drew g r := h.far (below_drew (Below.refl _ _))
theorem open_short {A : Option Addr} {c n : Nat} {w : World} (hn : n < 2) : Calls Tryd.prog 30 #[.slice A n c] w fun e w' => e = .returned (.tuple #[.slice none 0 0, .int .i64 9]) ∧ w = w' := by
  have hd : decide ((n : Int) - 2 < 0) = true := decide_eq_true (by omega)
  have hn' : n ≤ 1 := by omega
  clear hn
  go_enter Tryd.func30, Tryd.ntmps30
  go_wp2
  go_ret2
  exact ⟨rfl, rfl⟩
theorem open_long {A : Option Addr} {c m : Nat} {xs : List Int} {w : World} (h : CI .u8 w A c xs) (hf : WF xs) (hl : xs.length ≤ 900) (hm : xs.length = m + 2) : Calls Tryd.prog 30 #[.slice A xs.length c] w fun e w' => ∃ v, e = .returned (.tuple #[v, .int .i64 (if valB (xs.drop m) = sumB (xs.take m) then 0 else 8)]) ∧ OI .u8 5 w w' v (if valB (xs.drop m) = sumB (xs.take m) then xs.take m else []) := by
  obtain ⟨i, hi, hz, hs, hbt⟩ := info_parts info8
  have hcut1 : ∀ W : World, (Instr.slice 29 (.slice A xs.length c) none (some (.int .i64 (m : Int))) none).run Tryd.prog W = .ok (.slice A m c) W := cut_to (P := Tryd.prog) 29 5 .i64 Tryd.underlying29 hi A xs.length c (m : Int) (by omega) (by omega) h.le
  have hcut2 : ∀ W : World, (Instr.slice 29 (.slice A xs.length c) (some (.int .i64 (m : Int))) none none).run Tryd.prog W = .ok (.slice (if c = m then A else A.map (·.add (m * 1))) (xs.length - m) (c - m)) W := cut_from (P := Tryd.prog) 29 5 .i64 Tryd.underlying29 hi 1 hs A xs.length c (m : Int) (by omega) (by omega)
  rw [Nat.mul_one] at hcut2
  have hd2 := h.drop (m := m) (by omega)
  generalize (if c = m then A else A.map (·.add m)) = A2 at hcut2 hd2
  have htk := h.take (m := m) (by omega)
  have hlt : (xs.take m).length = m := by rw [List.length_take]; omega
  have hld : (xs.drop m).length = xs.length - m := List.length_drop
  have hf1 := hf.take m
  have hf2 := hf.drop m
  have e1 : (xs.length : Int) - 2 = (m : Int) := by omega
  have hlen2 : xs.length - m = 2 := by omega
  have hlen900 : xs.length ≤ 900 := hl
  clear h hi hz hs hbt hf
  rw [hlen2] at hcut2 hld
  generalize xs.take m = ys at htk hlt hf1
  generalize xs.drop m = zs at hd2 hld hf2
  have hmm : m ≤ 900 := by omega
  clear hlen2 hl
  generalize xs.length = len at hcut1 hcut2 e1 hm hlen900
  have hd0 : decide ((m : Int) < 0) = false := decide_eq_false (by omega)
  clear hm
  subst hlt
  have HR : Aside0 _ := ⟨read_any hd2 hf2 (by omega)⟩
  rw [hld] at HR
  have HN : ∀ g w, RD w g ⟨zs, 0⟩ → Calls Tryd.prog 32 #[.pointer (some ⟨g, 0, none⟩), .int .i64 2] w fun e w' => e = .returned (.int .i64 (valB zs)) ∧ RD w' g (next ⟨zs, 0⟩ 2) ∧ w.grownBy w' (some g) := fun g w hr => by
    have := next_any hr 2
    rw [show nextV ⟨zs, 0⟩ 2 = valB zs by
      have : ¬ ((zs.length : Int) < 2) := by omega
      simp only [nextV, ne_eq, not_true_eq_false, if_false, show lim 2 ≠ 0 by decide, this]
      rw [show (2 : Int).toNat = zs.length by rw [hld]; rfl, List.take_length]] at this
    exact this
  have HN := Aside0.mk HN
  have HC := Aside0.mk htk
  have HF := Aside0.mk hf1
  clear hf2 hd2 hld htk hf1
  by_cases hq : valB zs = sumB ys
  · rw [if_pos hq, if_pos hq]
    have hb : (valB zs != sumB ys) = false := bne_eq_false_iff_eq.mpr hq
    clear hq
    go_enter Tryd.func30, Tryd.ntmps30
    go_upto_region 5 with (first | (go_at_call 31; refine HR.out.mono ?_; clear HR; rintro e w2 ⟨g, rfl, hr, hb2, hg⟩; have HR := Aside0.mk hr; have HB := Aside0.mk hb2; have HG := Aside0.mk hg; clear hr hb2 hg))
    go_region_held3 (fun w' => CI .u8 w' A c ys) (first | exact HC.out.below (below_drew HB.out) | exact HC.out.below HB3.out) (first | (go_at_call 32; refine (HN.out _ _ HR.out.drew).mono ?_; rintro e w3 ⟨rfl, hr, hg⟩; have HB3 := Aside0.mk (below_grown (below_drew HB.out) hg (fun k hk => by cases hk; exact HG.out)); clear hr hg) | (go_at_call 55; refine (sum_any (by assumption) HF.out (by omega)).mono ?_; rintro e w' ⟨rfl, rfl⟩))
    go_wp2_with (first | (go_at_call 54; refine (clone_any (HC.out.below HB3.out) (by omega)).mono ?_; rintro e w4 ⟨v, rfl, ho⟩; have HO := Aside0.mk (ho.less HB3.out); clear ho))
    go_ret2
    exact ⟨_, rfl, HO.out⟩
  · rw [if_neg hq, if_neg hq]
    have hb : (valB zs != sumB ys) = true := bne_iff_ne.mpr hq
    clear hq
    go_enter Tryd.func30, Tryd.ntmps30
    go_upto_region 5 with (first | (go_at_call 31; refine HR.out.mono ?_; clear HR; rintro e w2 ⟨g, rfl, hr, hb2, hg⟩; have HR := Aside0.mk hr; have HB := Aside0.mk hb2; have HG := Aside0.mk hg; clear hr hb2 hg))
    go_region_held3 (fun w' => CI .u8 w' A c ys) (first | exact HC.out.below (below_drew HB.out) | exact HC.out.below HB3.out) (first | (go_at_call 32; refine (HN.out _ _ HR.out.drew).mono ?_; rintro e w3 ⟨rfl, hr, hg⟩; have HB3 := Aside0.mk (below_grown (below_drew HB.out) hg (fun k hk => by cases hk; exact HG.out)); clear hr hg) | (go_at_call 55; refine (sum_any (by assumption) HF.out (by omega)).mono ?_; rintro e w' ⟨rfl, rfl⟩))
    go_wp2
    go_ret2
    exact ⟨_, rfl, OI.nil _ _ HB3.out⟩
theorem open_any {A : Option Addr} {c : Nat} {xs : List Int} {w : World} (h : CI .u8 w A c xs) (hf : WF xs) (hl : xs.length ≤ 900) : Calls Tryd.prog 30 #[.slice A xs.length c] w fun e w' => ∃ v, e = .returned (.tuple #[v, .int .i64 (opE xs)]) ∧ OI .u8 5 w w' v (opB xs) := by
  by_cases h2 : xs.length < 2
  · have e1 : opE xs = 9 := by unfold opE; rw [if_pos h2]
    have e2 : opB xs = [] := by unfold opB; rw [e1]; rfl
    rw [e1, e2]
    exact (open_short h2).mono (fun e w' ⟨h3, h4⟩ => ⟨_, h3, OI.nil _ _ (by rw [← h4]; exact Below.refl _ _)⟩)
  · have hm : xs.length = (xs.length - 2) + 2 := by omega
    have e1 : opE xs = if valB (xs.drop (xs.length - 2)) = sumB (xs.take (xs.length - 2)) then 0 else 8 := by
      unfold opE
      rw [if_neg h2]
      by_cases hq : valB (xs.drop (xs.length - 2)) = sumB (xs.take (xs.length - 2))
      · rw [if_pos hq, if_neg (fun h => h hq)]
      · rw [if_neg hq, if_pos hq]
    have e2 : opB xs = if valB (xs.drop (xs.length - 2)) = sumB (xs.take (xs.length - 2)) then xs.take (xs.length - 2) else [] := by
      unfold opB
      rw [e1]
      by_cases hq : valB (xs.drop (xs.length - 2)) = sumB (xs.take (xs.length - 2))
      · rw [if_pos hq, if_pos hq, if_pos rfl]
      · rw [if_neg hq, if_neg hq, if_neg (by decide)]
    rw [e1, e2]
    exact open_long h hf hl hm
/-! The document's -/
theorem putB_val {s : Int} (h0 : 0 ≤ s) (h1 : s < 65536) : valB (putB 2 s) = s := by
  simp [putB, valB]
  omega
theorem val_inj2 {xs : List Int} (h : WF xs) (hl : xs.length = 2) : putB 2 (valB xs) = xs := by
  rcases xs with _ | ⟨a, _ | ⟨b, _ | ⟨c, t⟩⟩⟩
  · simp at hl
  · simp at hl
  · have := h a (by simp)
    have := h b (by simp)
    simp [putB, valB]
    omega
  · simp at hl
theorem seal_eq {xs : List Int} {m : Nat} (hf : WF xs) (hm : xs.length = m + 2) : (xs.take m ++ putB 2 (sumB (xs.take m)) = xs) ↔ valB (xs.drop m) = sumB (xs.take m) := by
  have hs := sumB_bound (xs.take m)
  have hd : (xs.drop m).length = 2 := by rw [List.length_drop]; omega
  constructor
  · intro h
    have h2 : putB 2 (sumB (xs.take m)) = xs.drop m := by
      have h3 : xs.take m ++ putB 2 (sumB (xs.take m)) = xs.take m ++ xs.drop m := by rw [h, List.take_append_drop]
      exact List.append_cancel_left h3
    rw [← h2, putB_val hs.1 hs.2]
  · intro h
    rw [← h, val_inj2 (hf.drop m) hd, List.take_append_drop]
theorem byte_inj {x y : Int} (hx : 0 ≤ x ∧ x < 256) (hy : 0 ≤ y ∧ y < 256) (h : UInt8.ofNat x.toNat = UInt8.ofNat y.toNat) : x = y := by
  have h2 := congrArg UInt8.toNat h
  simp only [UInt8.toNat_ofNat'] at h2
  omega
theorem map_inj : ∀ {xs ys : List Int}, WF xs → WF ys → xs.map (fun n => UInt8.ofNat n.toNat) = ys.map (fun n => UInt8.ofNat n.toNat) → xs = ys
  | [], [], _, _, _ => rfl
  | [], y :: ys, _, _, h => by simp at h
  | x :: xs, [], _, _, h => by simp at h
  | x :: xs, y :: ys, hx, hy, h => by
    simp only [List.map_cons, List.cons.injEq] at h
    rw [byte_inj (hx x (by simp)) (hy y (by simp)) h.1, map_inj (fun z hz => hx z (by simp [hz])) (fun z hz => hy z (by simp [hz])) h.2]
theorem str_inj {xs ys : List Int} (hx : WF xs) (hy : WF ys) : strOfNums xs = strOfNums ys ↔ xs = ys := by
  refine ⟨fun h => ?_, fun h => by rw [h]⟩
  have h2 : (strOfNums xs).data.toList = (strOfNums ys).data.toList := by rw [h]
  rw [strOfNums_data, strOfNums_data] at h2
  exact map_inj hx hy h2
theorem str_ne {x y : ByteArray} (h : x ≠ y) : (x.toList == y.toList) = false := by
  cases e : (x.toList == y.toList)
  · rfl
  · rw [beq_iff_eq, ByteArray.toList_eq, ByteArray.toList_eq] at e
    exact absurd (by cases x; cases y; simp_all) h
theorem rOpen_short {A : Option Addr} {c n : Nat} {w : World} (hn : n < 2) : Calls Tryd.prog 39 #[.slice A n c] w fun e w' => e = .returned (.tuple #[.slice none 0 0, .int .i64 9]) ∧ w = w' := by
  have hd : decide ((n : Int) - 2 < 0) = true := decide_eq_true (by omega)
  have hn' : n ≤ 1 := by omega
  clear hn
  go_enter Tryd.func39, Tryd.ntmps39
  go_wp2
  go_ret2
  exact ⟨rfl, rfl⟩
set_option maxRecDepth 100000 in
theorem rOpen_long {A : Option Addr} {c m : Nat} {xs : List Int} {w : World} (h : CI .u8 w A c xs) (hf : WF xs) (hl : xs.length ≤ 900) (hm : xs.length = m + 2) : Calls Tryd.prog 39 #[.slice A xs.length c] w fun e w' => ∃ A' n' c', e = .returned (.tuple #[.slice A' n' c', .int .i64 (if valB (xs.drop m) = sumB (xs.take m) then 0 else 8)]) ∧ n' = (if valB (xs.drop m) = sumB (xs.take m) then xs.take m else []).length ∧ CI .u8 w A' c' (if valB (xs.drop m) = sumB (xs.take m) then xs.take m else []) ∧ Below w.heap.size w w' := by
  obtain ⟨i, hi, hz, hs, hbt⟩ := info_parts info8
  have hcut1 : ∀ W : World, (Instr.slice 29 (.slice A xs.length c) none (some (.int .i64 (m : Int))) none).run Tryd.prog W = .ok (.slice A m c) W := cut_to (P := Tryd.prog) 29 5 .i64 Tryd.underlying29 hi A xs.length c (m : Int) (by omega) (by omega) h.le
  have htk := h.take (m := m) (by omega)
  have hlt : (xs.take m).length = m := by rw [List.length_take]; omega
  have hf1 := hf.take m
  have e1 : (xs.length : Int) - 2 = (m : Int) := by omega
  have hlen900 : xs.length ≤ 900 := hl
  have hmm : m ≤ 900 := by omega
  have hd0 : decide ((m : Int) < 0) = false := decide_eq_false (by omega)
  have hse := seal_eq hf hm
  have hsb : (strOfNums (xs.take m ++ putB 2 (sumB (xs.take m))) = strOfNums xs) ↔ valB (xs.drop m) = sumB (xs.take m) := (str_inj (hf1.app (WF.putB _ _)) hf).trans hse
  have HX := Aside0.mk h
  clear hi hz hs hbt hl hm hse
  have HSL := Aside0.mk (fun w hc => rSeal_any (w := w) (A := A) (c := c) (xs := xs.take m) hc hf1 (by omega))
  generalize valB (xs.drop m) = V at hsb
  generalize hys : xs.take m = ys at htk hlt hf1 hsb HSL
  clear hys
  have HC := Aside0.mk htk
  have HF := Aside0.mk hf1
  clear h hf htk hf1
  by_cases hq : V = sumB ys
  · rw [if_pos hq, if_pos hq]
    have hb : ((strOfNums (ys ++ putB 2 (sumB ys))).toList == (strOfNums xs).toList) = true := by
      rw [hsb.2 hq, beq_self_eq_true]
    clear hq hsb
    subst hlt
    generalize ys ++ putB 2 (sumB ys) = zs at hb HSL
    go_enter Tryd.func39, Tryd.ntmps39
    go_upto_region 4 with (first | fail)
    have hx0 := HX.out.drew.str
    go_region_with (first | (go_at_call 17; refine (HSL.out _ HC.out.drew).mono ?_; rintro e w3 ⟨r, rfl, ho⟩; obtain ⟨A1, c1, rfl, hc1⟩ := ho.reads; have hx1 := hc1.str; have HB3 := Aside0.mk (below_step (below_drew (Below.refl _ _)) ho.bel); have hx2 := (HX.out.below HB3.out).str; clear ho hc1))
    all_goals (go_wp2; go_ret2; exact ⟨_, _, _, rfl, rfl, HC.out, HB3.out⟩)
  · rw [if_neg hq, if_neg hq]
    have hb : ((strOfNums (ys ++ putB 2 (sumB ys))).toList == (strOfNums xs).toList) = false := str_ne (fun h => hq (hsb.1 h))
    clear hq hsb
    subst hlt
    generalize ys ++ putB 2 (sumB ys) = zs at hb HSL
    go_enter Tryd.func39, Tryd.ntmps39
    go_upto_region 4 with (first | fail)
    have hx0 := HX.out.drew.str
    go_region_with (first | (go_at_call 17; refine (HSL.out _ HC.out.drew).mono ?_; rintro e w3 ⟨r, rfl, ho⟩; obtain ⟨A1, c1, rfl, hc1⟩ := ho.reads; have hx1 := hc1.str; have HB3 := Aside0.mk (below_step (below_drew (Below.refl _ _)) ho.bel); have hx2 := (HX.out.below HB3.out).str; clear ho hc1))
    all_goals (go_wp2; go_ret2; exact ⟨_, _, _, rfl, rfl, CI.nil _ _, HB3.out⟩)
theorem rOpen_any {A : Option Addr} {c : Nat} {xs : List Int} {w : World} (h : CI .u8 w A c xs) (hf : WF xs) (hl : xs.length ≤ 900) : Calls Tryd.prog 39 #[.slice A xs.length c] w fun e w' => ∃ A' c', e = .returned (.tuple #[.slice A' (opB xs).length c', .int .i64 (opE xs)]) ∧ CI .u8 w A' c' (opB xs) ∧ Below w.heap.size w w' := by
  by_cases h2 : xs.length < 2
  · have e1 : opE xs = 9 := by unfold opE; rw [if_pos h2]
    have e2 : opB xs = [] := by unfold opB; rw [e1]; rfl
    rw [e1, e2]
    exact (rOpen_short h2).mono (fun e w' ⟨h3, h4⟩ => ⟨_, _, h3, CI.nil _ _, by rw [← h4]; exact Below.refl _ _⟩)
  · have hm : xs.length = (xs.length - 2) + 2 := by omega
    have e1 : opE xs = if valB (xs.drop (xs.length - 2)) = sumB (xs.take (xs.length - 2)) then 0 else 8 := by
      unfold opE
      rw [if_neg h2]
      by_cases hq : valB (xs.drop (xs.length - 2)) = sumB (xs.take (xs.length - 2))
      · rw [if_pos hq, if_neg (fun h => h hq)]
      · rw [if_neg hq, if_pos hq]
    have e2 : opB xs = if valB (xs.drop (xs.length - 2)) = sumB (xs.take (xs.length - 2)) then xs.take (xs.length - 2) else [] := by
      unfold opB
      rw [e1]
      by_cases hq : valB (xs.drop (xs.length - 2)) = sumB (xs.take (xs.length - 2))
      · rw [if_pos hq, if_pos hq, if_pos rfl]
      · rw [if_neg hq, if_neg hq, if_neg (by decide)]
    rw [e1, e2]
    exact (rOpen_long h hf hl hm).mono (fun e w' ⟨A', n', c', h3, h4, h5, h6⟩ => ⟨A', c', by rw [h3, h4], h5, h6⟩)
end Go.Proofs.YtdebbanloopcgaaDoor.Wi

/- WireOpens: what is opened of any bytes is what the document says. -/
set_option linter.unusedVariables false
set_option linter.unusedSimpArgs false
namespace Go.Proofs.YtdebbanloopcgaaDoor.Wi
open Go.RowKit Go.Proofs.YtdebbanloopcgaaDoorW.PrintWords Go.Proofs.YtdebbanloopcgaaDoorW.PrintLast Go.Proofs.YtdebbanloopcgaaDoorW.PrintMore
attribute [local go_sem] max2_int min2_int max_two min_two max_three min_three max_four min_four
end Go.Proofs.YtdebbanloopcgaaDoor.Wi

/- Layer 3 (wire): what one byte turned does to what is sealed, in plain words. -/
set_option linter.unusedVariables false
set_option linter.unusedSimpArgs false
namespace Go.Proofs.YtdebbanloopcgaaDoor.Wi
open Go.RowKit Go.Proofs.YtdebbanloopcgaaDoorW.PrintWords Go.Proofs.YtdebbanloopcgaaDoorW.PrintLast Go.Proofs.YtdebbanloopcgaaDoorW.PrintMore
def sealB (ys : List Int) : List Int := ys ++ putB 2 (sumB ys)
theorem sealB_len (ys : List Int) : (sealB ys).length = ys.length + 2 := by simp [sealB, putB]
theorem sealB_wf {ys : List Int} (h : WF ys) : WF (sealB ys) := h.app (WF.putB _ _)
theorem opE_of {zs : List Int} {m : Nat} (h : zs.length = m + 2) : opE zs = if valB (zs.drop m) = sumB (zs.take m) then 0 else 8 := by
  unfold opE
  rw [if_neg (by omega), show zs.length - 2 = m by omega]
  by_cases hq : valB (zs.drop m) = sumB (zs.take m)
  · rw [if_pos hq, if_neg (fun h => h hq)]
  · rw [if_neg hq, if_pos hq]
theorem opE_seal (ys : List Int) : opE (sealB ys) = 0 := by
  have hs := sumB_bound ys
  rw [opE_of (sealB_len ys)]
  unfold sealB
  rw [List.drop_left, List.take_left, putB_val hs.1 hs.2, if_pos rfl]
theorem opB_seal (ys : List Int) : opB (sealB ys) = ys := by
  unfold opB
  rw [opE_seal, if_pos rfl, sealB_len, show ys.length + 2 - 2 = ys.length by omega]
  unfold sealB
  rw [List.take_left]
theorem sum_set : ∀ (ys : List Int) (k : Nat) (y : Int), k < ys.length → (ys.set k y).sum = ys.sum - rd ys k + y
  | [], k, y, h => by simp at h
  | x :: ys, 0, y, _ => by
    simp [rd]
    omega
  | x :: ys, k + 1, y, h => by
    have := sum_set ys k y (by simpa using h)
    have e : rd (x :: ys) ((k + 1 : Nat) : Int) = rd ys (k : Int) := by simp [rd]
    simp only [List.set_cons_succ, List.sum_cons, this, e]
    omega
theorem rd_left {ys zs : List Int} {k : Nat} (h : k < ys.length) : rd (ys ++ zs) (k : Int) = rd ys k := by
  simp [rd, List.getElem?_append_left h]
theorem opE_turn {ys : List Int} (hf : WF ys) {k : Nat} (hk : k < ys.length + 2) {y : Int} (hy : 0 ≤ y ∧ y < 256) : opE ((sealB ys).set k y) = if y = rd (sealB ys) k then 0 else 8 := by
  have hs := sumB_bound ys
  rw [opE_of (m := ys.length) (by rw [List.length_set]; exact sealB_len ys)]
  unfold sealB
  by_cases h : k < ys.length
  · rw [List.set_append_left _ _ h]
    have hl : (ys.set k y).length = ys.length := List.length_set ..
    rw [show ys.length = (ys.set k y).length from hl.symm, List.drop_left, List.take_left, putB_val hs.1 hs.2, rd_left h]
    have hx := wf_rd hf h
    have e := sum_set ys k y h
    have hq : (sumB ys = sumB (ys.set k y)) ↔ y = rd ys k := by
      unfold sumB
      rw [e]
      constructor
      · intro h; omega
      · intro h; rw [h]; congr 1; omega
    by_cases hz : y = rd ys k
    · rw [if_pos hz, if_pos (hq.2 hz)]
    · rw [if_neg hz, if_neg (fun h => hz (hq.1 h))]
  · rw [List.set_append_right _ _ (by omega), List.drop_left, List.take_left]
    obtain ⟨s, hse⟩ : ∃ s, sumB ys = s := ⟨_, rfl⟩
    rw [hse] at hs ⊢
    have e : rd (ys ++ putB 2 s) (k : Int) = rd (putB 2 s) ((k - ys.length : Nat) : Int) := by
      simp [rd, List.getElem?_append_right (show ys.length ≤ k by omega)]
    rw [e]
    rcases (show k - ys.length = 0 ∨ k - ys.length = 1 by omega) with h1 | h1
    · rw [h1]
      simp [putB, valB, rd]
      by_cases hz : y = s / 256 % 256
      · rw [if_pos hz, if_pos (by omega)]
      · rw [if_neg hz, if_neg (by omega)]
    · rw [h1]
      simp [putB, valB, rd]
      by_cases hz : y = s % 256
      · rw [if_pos hz, if_pos (by omega)]
      · rw [if_neg hz, if_neg (by omega)]
theorem xor_nat (a b : Nat) : a ^^^ b = a ↔ b = 0 := by
  constructor
  · intro h
    have h2 : a ^^^ (a ^^^ b) = a ^^^ a := by rw [h]
    rw [← Nat.xor_assoc, Nat.xor_self, Nat.zero_xor] at h2
    exact h2
  · intro h
    rw [h, Nat.xor_zero]
theorem xor_byte {x b : Int} (hx : 0 ≤ x ∧ x < 256) (hb : 0 ≤ b ∧ b < 256) : (0 ≤ bits .xor .u8 x b ∧ bits .xor .u8 x b < 256) ∧ (bits .xor .u8 x b = x ↔ b = 0) := by
  rw [u8_xor x b hx.1 hx.2 hb.1 hb.2]
  have h1 : x.toNat ^^^ b.toNat < 2 ^ 8 := Nat.xor_lt_two_pow (by omega) (by omega)
  refine ⟨⟨by omega, by omega⟩, ?_⟩
  have h2 := xor_nat x.toNat b.toNat
  constructor
  · intro h
    have := h2.1 (by omega)
    omega
  · intro h
    have := h2.2 (by omega)
    omega
end Go.Proofs.YtdebbanloopcgaaDoor.Wi

/- WireBack: numbers that are put one behind the other are read as they were, and nothing is left. -/
set_option linter.unusedVariables false
set_option linter.unusedSimpArgs false
namespace Go.Proofs.YtdebbanloopcgaaDoor.Wi
open Go.RowKit Go.Proofs.YtdebbanloopcgaaDoorW.PrintWords Go.Proofs.YtdebbanloopcgaaDoorW.PrintLast Go.Proofs.YtdebbanloopcgaaDoorW.PrintMore
attribute [local go_sem] max2_int min2_int max_two min_two max_three min_three max_four min_four Tryd.underlying24
def encB : List (Int × Int) → List Int
  | [] => []
  | p :: t => putB p.1 p.2 ++ encB t
theorem encB_snoc : ∀ (ps : List (Int × Int)) (p : Int × Int), encB (ps ++ [p]) = encB ps ++ putB p.1 p.2
  | [], p => by simp [encB]
  | q :: t, p => by simp only [List.cons_append, encB, encB_snoc t p, List.append_assoc]
theorem encB_wf : ∀ ps, WF (encB ps)
  | [] => WF.nil
  | p :: t => (WF.putB _ _).app (encB_wf t)
theorem putB_len {n v : Int} (h : putE n v = 0) : ((putB n v).length : Int) = n := by
  rcases putE_ok h with ⟨rfl, _, _⟩ | ⟨rfl, _, _⟩ | ⟨rfl, _, _⟩ <;> rfl
theorem putB_back {n v : Int} (h : putE n v = 0) : valB (putB n v) = v := by
  rcases putE_ok h with ⟨rfl, _, _⟩ | ⟨rfl, _, _⟩ | ⟨rfl, _, _⟩ <;> simp [putB, valB] <;> omega
theorem putE_lim {n v : Int} (h : putE n v = 0) : lim n ≠ 0 := by
  intro e
  unfold putE at h
  rw [if_pos e] at h
  exact absurd h (by decide)
theorem next_enc {n v : Int} (h : putE n v = 0) (t : List Int) : next ⟨putB n v ++ t, 0⟩ n = ⟨t, 0⟩ ∧ nextV ⟨putB n v ++ t, 0⟩ n = v := by
  have h1 := putB_len h
  have h2 := putE_lim h
  have h3 : ¬ (((putB n v ++ t).length : Int) < n) := by rw [List.length_append]; omega
  have h4 : n.toNat = (putB n v).length := by omega
  constructor
  · simp only [next, ne_eq, not_true_eq_false, if_false, h2, h3, h4, List.drop_left]
  · simp only [nextV, ne_eq, not_true_eq_false, if_false, h2, h3, h4, List.take_left]
    exact putB_back h
def Good (ps : List (Int × Int)) : Prop := ∀ p ∈ ps, putE p.1 p.2 = 0
theorem enc_len : ∀ {ps : List (Int × Int)}, Good ps → (encB ps).length ≤ 4 * ps.length
  | [], _ => by simp [encB]
  | p :: t, h => by
    have h1 := putB_len (h p (by simp))
    have h2 := enc_len (ps := t) (fun q hq => h q (by simp [hq]))
    have h3 : p.1 ≤ 4 := by rcases putE_ok (h p (by simp)) with ⟨e, _, _⟩ | ⟨e, _, _⟩ | ⟨e, _, _⟩ <;> omega
    simp only [encB, List.length_append, List.length_cons]
    omega
theorem OI.other {k k' : IntKind} {e e' : TypeId} {w0 W W' : World} {v u : Value} {xs ys : List Int} (h : OI k e w0 W v xs) (h2 : OI k' e' w0 W u ys) (hne : e ≠ e') (hg : W.grownBy W' u.ownBlock) : OI k e w0 W' v xs := by
  refine h.grown hg (fun b hb => (h2.typed b hb).1) (fun b hb e => ?_)
  obtain ⟨_, c1, k1⟩ := h.typed b e
  obtain ⟨_, c2, k2⟩ := h2.typed b hb
  rw [k1] at k2
  injection k2 with k2
  injection k2 with _ k2
  exact hne k2
/-- The bytes put, the numbers, the widths: three rows of the call's own. -/
structure Tr (w0 W : World) (b own wides : Value) (bs vs ws : List Int) : Prop where
  ob : OI .u8 5 w0 W b bs
  oo : OI .i64 3 w0 W own vs
  ow : OI .i64 3 w0 W wides ws
  dis : ∀ x, own.ownBlock = some x → wides.ownBlock ≠ some x
section
variable {w0 W W' : World} {b own wides v : Value} {bs vs ws xs : List Int}
theorem Tr.far (h : Tr w0 W b own wides bs vs ws) (hb : Below W.heap.size W W') : Tr w0 W' b own wides bs vs ws := ⟨h.ob.far hb, h.oo.far hb, h.ow.far hb, h.dis⟩
theorem Tr.addOwn (h : Tr w0 W b own wides bs vs ws) (ho : OI .i64 3 w0 W' v xs) (hg : W.grownBy W' own.ownBlock) (hat : v.ownBlock = own.ownBlock ∨ ∃ b, v.ownBlock = some b ∧ W.heap.size ≤ b) : Tr w0 W' b v wides bs xs ws := by
  refine ⟨h.ob.other h.oo (by decide) hg, ho, h.ow.grown hg (fun b hb => (h.oo.typed b hb).1) (fun b hb => h.dis b hb), fun x hx => ?_⟩
  rcases hat with e | ⟨b', e, hle⟩
  · exact h.dis x (by rw [← e]; exact hx)
  · rw [e] at hx
    cases hx
    intro hx
    obtain ⟨_, c1, k1⟩ := h.ow.typed _ hx
    have := blk_lt k1
    omega
theorem Tr.addWides (h : Tr w0 W b own wides bs vs ws) (ho : OI .i64 3 w0 W' v xs) (hg : W.grownBy W' wides.ownBlock) (hat : v.ownBlock = wides.ownBlock ∨ ∃ b, v.ownBlock = some b ∧ W.heap.size ≤ b) : Tr w0 W' b own v bs vs xs := by
  refine ⟨h.ob.other h.ow (by decide) hg, h.oo.grown hg (fun b hb => (h.ow.typed b hb).1) (fun b hb e => h.dis b e hb), ho, fun x hx => ?_⟩
  rcases hat with e | ⟨b', e, hle⟩
  · rw [e]
    exact h.dis x hx
  · rw [e]
    intro e2
    cases e2
    obtain ⟨_, c1, k1⟩ := h.oo.typed _ hx
    have := blk_lt k1
    omega
end
theorem put_n {n : Nat} {v : Int} (h : putE n v = 0) {A : Option Addr} {c : Nat} {xs : List Int} {w : World} (hc : CI .u8 w A c xs) (hl : xs.length ≤ 900) :
    Calls Tryd.prog 24 #[.slice A xs.length c, .int .i64 n, .int .i64 v] w fun e w' => ∃ A' c', e = .returned (.tuple #[.slice A' (xs.length + n) c', .int .i64 0]) ∧ OI .u8 5 w w' (.slice A' (xs.length + n) c') (xs ++ putB n v) := by
  refine (put_ok h hc hl).mono ?_
  rintro e w' ⟨r, rfl, ho⟩
  obtain ⟨A1, c1, rfl, h1⟩ := ho.reads
  have e : (xs ++ putB n v).length = xs.length + n := by
    have := putB_len h
    rw [List.length_append]
    omega
  rw [e] at ho ⊢
  exact ⟨A1, c1, rfl, ho⟩
theorem rd_snd {ps : List (Int × Int)} {k : Nat} (h : k < ps.length) : rd (ps.map Prod.snd) (k : Int) = ps[k].2 := by simp [rd, h]
theorem rd_fst {ps : List (Int × Int)} {k : Nat} (h : k < ps.length) : rd (ps.map Prod.fst) (k : Int) = ps[k].1 := by simp [rd, h]
theorem at_snd {W : World} {a : Addr} {c j : Nat} {ps : List (Int × Int)} {v : Int} (h : CI .i64 W (some a) c (ps.map Prod.snd)) (hj : j < ps.length) (hv : ps[j].2 = v) : W.cell? (a.add j) = some (.int .i64 v) := by
  obtain ⟨ad', e, hc⟩ := h.at_ (i := j) (by rw [List.length_map]; exact hj)
  cases e
  rw [rd_snd hj, hv] at hc
  exact hc
theorem at_fst {W : World} {a : Addr} {c j : Nat} {ps : List (Int × Int)} {v : Int} (h : CI .i64 W (some a) c (ps.map Prod.fst)) (hj : j < ps.length) (hv : ps[j].1 = v) : W.cell? (a.add j) = some (.int .i64 v) := by
  obtain ⟨ad', e, hc⟩ := h.at_ (i := j) (by rw [List.length_map]; exact hj)
  cases e
  rw [rd_fst hj, hv] at hc
  exact hc
end Go.Proofs.YtdebbanloopcgaaDoor.Wi

/- WireTurns: what is sealed is opened; with one byte turned it isn't. -/
set_option linter.unusedVariables false
set_option linter.unusedSimpArgs false
namespace Go.Proofs.YtdebbanloopcgaaDoor.Wi
open Go.RowKit Go.Proofs.YtdebbanloopcgaaDoorW.PrintWords Go.Proofs.YtdebbanloopcgaaDoorW.PrintLast Go.Proofs.YtdebbanloopcgaaDoorW.PrintMore
attribute [local go_sem] max2_int min2_int max_two min_two max_three min_three max_four min_four
theorem OI.shape {k : IntKind} {e : TypeId} {w0 W : World} {v : Value} {xs : List Int} (h : OI k e w0 W v xs) (hp : 0 < xs.length) : ∃ g c, v = .slice (some ⟨g, 0, none⟩) xs.length c ∧ w0.heap.size ≤ g := by
  obtain ⟨_, h2⟩ := Kd.own_of_R h.r
  rcases h2 with ⟨_, h3⟩ | ⟨g, cap, cur, h3, h4, _⟩
  · omega
  · exact ⟨g, cap, h3, h4⟩
theorem OI.put {k : IntKind} {e : TypeId} {w0 W : World} {g c n : Nat} {xs : List Int} (h : OI k e w0 W (.slice (some ⟨g, 0, none⟩) n c) xs) (i : Nat) (x : Int) : OI k e w0 (W.setCell ⟨g, i, none⟩ (.int k x)) (.slice (some ⟨g, 0, none⟩) n c) (xs.set i x) :=
  ⟨Kd.R_putn h.r (i : Int) x, below_set h.bel (h.r.1 g rfl)⟩
theorem OI.cell {k : IntKind} {e : TypeId} {w0 W : World} {g c n : Nat} {xs : List Int} (h : OI k e w0 W (.slice (some ⟨g, 0, none⟩) n c) xs) {i : Nat} (hi : i < n) : W.cell? ⟨g, i, none⟩ = some (.int k (rd xs i)) ∧ W.frozen? ⟨g, i, none⟩ = false := by
  exact Kd.R_celln (0 : Int) h.r (i : Int) (by omega) (by omega)
theorem OI.ci {k : IntKind} {e : TypeId} {w0 W : World} {A : Option Addr} {c n : Nat} {xs : List Int} (h : OI k e w0 W (.slice A n c) xs) : CI k W A c xs := by
  obtain ⟨A', c', e, hc⟩ := h.reads
  injection e with e1 e2 e3
  subst e1 e3
  exact hc
theorem u64_of {x : Int} (h0 : 0 ≤ x) (h1 : x < 18446744073709551616) : IntKind.u64.wrap x = x := by
  simp only [IntKind.wrap, IntKind.bits, IntKind.signed]
  simp
  omega
end Go.Proofs.YtdebbanloopcgaaDoor.Wi
