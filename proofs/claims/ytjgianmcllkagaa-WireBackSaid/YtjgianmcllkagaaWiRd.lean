/- Layer 3 (wire): readers: what a reader's block holds, and what each of its methods answers; the document's Next and End. -/
import Derived.Test.YtjgianmcllkagaaWiRef
set_option linter.unusedVariables false
set_option linter.unusedSimpArgs false
namespace Go.Proofs.Ytjgianmcllkagaa.Wi
open Go.RowKit Go.Proofs.YtjgianmcllkagaaW.PrintWords Go.Proofs.YtjgianmcllkagaaW.PrintLast Go.Proofs.YtjgianmcllkagaaW.PrintMore
attribute [local go_sem] max2_int min2_int max_two min_two max_three min_three max_four min_four Try.underlying48 Try.underlying30
theorem add_block (ad : Addr) (i : Nat) : (ad.add i).block = ad.block := by unfold Addr.add; split <;> rfl
theorem CI.off {k : IntKind} {W W' : World} {A : Option Addr} {c : Nat} {xs : List Int} (h : CI k W A c xs) (hb : ∀ ad, A = some ad → W'.heap[ad.block]? = W.heap[ad.block]?) : CI k W' A c xs := by
  obtain ⟨⟨h1, h2, h3⟩, hl⟩ := h
  refine ⟨⟨h1, h2, fun hp => ?_⟩, hl⟩
  obtain ⟨ad, rfl, h4⟩ := h3 hp
  refine ⟨ad, rfl, fun j p hj => ?_⟩
  obtain ⟨us, e1, e2, h5⟩ := h4 j p hj
  refine ⟨us, e1, e2, fun i u hu => ?_⟩
  rw [← h5 i u hu]
  refine World.cell?_of_block ?_
  rw [add_block]
  exact hb ad rfl
/-- A reader: its block, its bytes in a row of bytes. -/
structure RD (W : World) (g : Nat) (r : Rd) : Prop where
  ex : ∃ A c, W.heap[g]? = some (.cells #[.slice A r.b.length c, .int .i64 r.e] 48 (0, 0)) ∧ CI .u8 W A c r.b ∧ (∀ ad, A = some ad → ∃ cells, W.heap[ad.block]? = some (.cells cells 5 (0, 0)))
  wf : WF r.b
section
variable {W W' : World} {g : Nat} {r : Rd}
theorem RD.far (h : RD W g r) (hb : Below W.heap.size W W') : RD W' g r := by
  obtain ⟨⟨A, c, h1, h2, h3⟩, hw⟩ := h
  refine ⟨⟨A, c, blk_below h1 hb, h2.below hb, fun ad e => ?_⟩, hw⟩
  obtain ⟨cells, h4⟩ := h3 ad e
  exact ⟨cells, blk_below h4 hb⟩
/-- Another block, of neither type, turned. -/
theorem RD.kept (h : RD W g r) {b : Nat} {t : TypeId} {cs : Array Value} (hb : W.heap[b]? = some (.cells cs t (0, 0))) (hg : W.grownBy W' (some b)) (h1 : t ≠ 48) (h2 : t ≠ 5) : RD W' g r := by
  obtain ⟨⟨A, c, k1, k2, k3⟩, hw⟩ := h
  refine ⟨⟨A, c, blk_grown k1 hg (fun e => ?_), k2.off (fun ad e => ?_), fun ad e => ?_⟩, hw⟩
  · exact blk_ne hb k1 h1 (Option.some.inj e).symm
  · obtain ⟨cells, h4⟩ := k3 ad e
    exact hg.block _ (blk_lt h4) (fun e2 => blk_ne hb h4 h2 (Option.some.inj e2).symm)
  · obtain ⟨cells, h4⟩ := k3 ad e
    exact ⟨cells, blk_grown h4 hg (fun e2 => blk_ne hb h4 h2 (Option.some.inj e2).symm)⟩
theorem RD.blk (h : RD W g r) : ∃ cells, W.heap[g]? = some (.cells cells 48 (0, 0)) := by
  obtain ⟨⟨A, c, h1, _, _⟩, _⟩ := h
  exact ⟨_, h1⟩
end
theorem rd_make {w0 W : World} {A : Option Addr} {c : Nat} {xs : List Int} (h : OI .u8 5 w0 W (.slice A xs.length c) xs) (hf : WF xs) : RD (W.alloc (.cells #[.slice A xs.length c, .int .i64 0] 48 (0, 0))) W.heap.size ⟨xs, 0⟩ := by
  obtain ⟨A', c', e, hc⟩ := h.reads
  cases e
  refine ⟨⟨A, c, blk_new _ _, hc.below (below_alloc (Below.refl _ _) _), fun ad e => ?_⟩, hf⟩
  subst e
  obtain ⟨_, cells, h4⟩ := h.typed ad.block (by simp [Value.ownBlock])
  exact ⟨cells, blk_alloc h4 _⟩
theorem read_any {A : Option Addr} {c : Nat} {xs : List Int} {w : World} (h : CI .u8 w A c xs) (hf : WF xs) (hl : xs.length ≤ 1000) :
    Calls Try.prog 11 #[.slice A xs.length c] w fun e w' => ∃ g, e = .returned (.pointer (some ⟨g, 0, none⟩)) ∧ RD w' g ⟨xs, 0⟩ ∧ Below w.heap.size w w' ∧ w.heap.size ≤ g := by
  have HC := Aside0.mk (clone_any h hl)
  have HF := Aside0.mk hf
  clear h hf hl
  go_enter Try.func11, Try.ntmps11
  go_wp2_with (first | (go_at_call 27; refine HC.out.mono ?_; clear HC; rintro e w1 ⟨v, rfl, ho⟩; obtain ⟨A1, c1, rfl, hc1⟩ := ho.reads; have HO := Aside0.mk ho; clear ho hc1))
  go_ret
  exact ⟨_, rfl, rd_make HO.out HF.out, below_alloc HO.out.bel _, HO.out.bel.size⟩
theorem err_any {g : Nat} {r : Rd} {w : World} (h : RD w g r) : Calls Try.prog 14 #[.pointer (some ⟨g, 0, none⟩)] w fun e w' => e = .returned (.int .i64 r.e) ∧ w = w' := by
  obtain ⟨⟨A, c, h1, _, _⟩, _⟩ := h
  have c1 : w.cell? ⟨g, 1, none⟩ = some (.int .i64 r.e) := (blk_cell h1 1).trans rfl
  clear h1
  go_enter Try.func14, Try.ntmps14
  go_wp2
  go_ret
  exact ⟨rfl, rfl⟩
theorem left_any {g : Nat} {r : Rd} {w : World} (h : RD w g r) : Calls Try.prog 15 #[.pointer (some ⟨g, 0, none⟩)] w fun e w' => e = .returned (.int .i64 (r.b.length : Nat)) ∧ w = w' := by
  obtain ⟨⟨A, c, h1, _, _⟩, _⟩ := h
  have c0 : w.cell? ⟨g, 0, none⟩ = some (.slice A r.b.length c) := (blk_cell h1 0).trans rfl
  clear h1
  go_enter Try.func15, Try.ntmps15
  go_wp2
  go_ret
  exact ⟨rfl, rfl⟩
theorem end_any {g : Nat} {r : Rd} {w : World} (h : RD w g r) : Calls Try.prog 16 #[.pointer (some ⟨g, 0, none⟩)] w fun e w' => e = .returned (.int .i64 (endE r)) ∧ w = w' := by
  have HE := Aside0.mk (err_any h)
  have HL := Aside0.mk (left_any h)
  clear h
  by_cases h0 : r.e = 0
  · by_cases h1 : 0 < r.b.length
    · have e : endE r = 8 := by unfold endE; rw [if_pos ⟨h0, h1⟩]
      have d0 : (r.e == 0) = true := beq_iff_eq.mpr h0
      have d1 : decide (0 < r.b.length) = true := decide_eq_true h1
      rw [e]
      clear h0 h1 e
      go_enter Try.func16, Try.ntmps16
      go_wp2_with (first | (go_at_call 14; refine HE.out.mono ?_; rintro e w' ⟨rfl, rfl⟩) | (go_at_call 15; refine HL.out.mono ?_; rintro e w' ⟨rfl, rfl⟩))
      go_ret
      exact ⟨rfl, rfl⟩
    · have e : endE r = r.e := by unfold endE; rw [if_neg (fun h => h1 h.2)]
      have d0 : (r.e == 0) = true := beq_iff_eq.mpr h0
      have d1 : decide (0 < r.b.length) = false := decide_eq_false h1
      rw [e]
      clear h0 h1 e
      go_enter Try.func16, Try.ntmps16
      go_wp2_with (first | (go_at_call 14; refine HE.out.mono ?_; rintro e w' ⟨rfl, rfl⟩) | (go_at_call 15; refine HL.out.mono ?_; rintro e w' ⟨rfl, rfl⟩))
      go_ret
      exact ⟨rfl, rfl⟩
  · have e : endE r = r.e := by unfold endE; rw [if_neg (fun h => h0 h.1)]
    have d0 : (r.e == 0) = false := beq_eq_false_iff_ne.mpr h0
    rw [e]
    clear h0 e
    go_enter Try.func16, Try.ntmps16
    go_wp2_with (first | (go_at_call 14; refine HE.out.mono ?_; rintro e w' ⟨rfl, rfl⟩) | (go_at_call 15; refine HL.out.mono ?_; rintro e w' ⟨rfl, rfl⟩))
    go_ret
    exact ⟨rfl, rfl⟩
theorem grown_set (w : World) (b i : Nat) (v : Value) : w.grownBy (w.setCell ⟨b, i, none⟩ v) (some b) :=
  ⟨rfl, rfl, rfl, by simp [World.setCell], fun k _ hk => Below.heap_setCell _ _ _ _ (fun e => hk (by rw [e]))⟩
theorem next_err {g : Nat} {r : Rd} {w : World} (h : RD w g r) (n : Int) (he : r.e ≠ 0) : Calls Try.prog 13 #[.pointer (some ⟨g, 0, none⟩), .int .i64 n] w fun e w' => e = .returned (.int .i64 0) ∧ w = w' := by
  have HE := Aside0.mk (err_any h)
  have d0 : (r.e != 0) = true := bne_iff_ne.mpr he
  clear h he
  go_enter Try.func13, Try.ntmps13
  go_wp2_with (first | (go_at_call 14; refine HE.out.mono ?_; rintro e w' ⟨rfl, rfl⟩))
  go_ret
  exact ⟨rfl, rfl⟩
theorem next_stop {g : Nat} {r : Rd} {w : World} (h : RD w g r) (n : Int) (he : r.e = 0) (q : Int) (hq : (lim n = 0 ∧ q = 8) ∨ (lim n ≠ 0 ∧ (r.b.length : Int) < n ∧ q = 9)) : Calls Try.prog 13 #[.pointer (some ⟨g, 0, none⟩), .int .i64 n] w fun e w' => e = .returned (.int .i64 0) ∧ RD w' g ⟨[], q⟩ ∧ w.grownBy w' (some g) := by
  have HE := Aside0.mk (err_any h)
  have HI : ∀ w, Calls Try.prog 29 #[.int .i64 n] w fun e w' => e = .returned (.bool (lim n != 0)) ∧ w = w' := is_any n
  obtain ⟨⟨A, c, h1, _, _⟩, _⟩ := h
  have c0 : w.cell? ⟨g, 0, none⟩ = some (.slice A r.b.length c) := (blk_cell h1 0).trans rfl
  have c1 : w.cell? ⟨g, 1, none⟩ = some (.int .i64 r.e) := (blk_cell h1 1).trans rfl
  have f0 := blk_frozen h1 0
  have f1 := blk_frozen h1 1
  have H := Aside0.mk h1
  clear h1
  obtain ⟨b, e⟩ := r
  obtain rfl : e = 0 := he
  have fin : RD ((w.setCell ⟨g, 0, none⟩ (.slice none 0 0)).setCell ⟨g, 1, none⟩ (.int .i64 q)) g ⟨[], q⟩ := by
    have hb2 := blk_put H.out 0 (.slice none 0 0) rfl
    have hb3 := blk_put hb2 1 (.int .i64 q) rfl
    exact ⟨⟨none, 0, hb3, CI.nil _ _, fun ad e => by cases e⟩, WF.nil⟩
  have FIN := Aside0.mk fin
  clear fin
  rcases hq with ⟨hl, rfl⟩ | ⟨hl, hn, rfl⟩
  · have hb : (lim n != 0) = false := by rw [hl]; rfl
    rw [hb] at HI
    have HI := Aside0.mk HI
    clear hl hb
    go_enter Try.func13, Try.ntmps13
    go_wp2_with (first | (go_at_call 14; refine HE.out.mono ?_; rintro e w' ⟨rfl, rfl⟩) | (go_at_call 29; refine (HI.out _).mono ?_; rintro e w' ⟨rfl, rfl⟩))
    go_ret
    exact ⟨rfl, FIN.out, World.grownBy.trans (grown_set w g 0 _) (grown_set _ g 1 _)⟩
  · have hb : (lim n != 0) = true := bne_iff_ne.mpr hl
    rw [hb] at HI
    have HI := Aside0.mk HI
    have hd : decide ((b.length : Int) < n) = true := decide_eq_true hn
    clear hl hb hn
    go_enter Try.func13, Try.ntmps13
    go_wp2_with (first | (go_at_call 14; refine HE.out.mono ?_; rintro e w' ⟨rfl, rfl⟩) | (go_at_call 29; refine (HI.out _).mono ?_; rintro e w' ⟨rfl, rfl⟩))
    go_ret
    exact ⟨rfl, FIN.out, World.grownBy.trans (grown_set w g 0 _) (grown_set _ g 1 _)⟩
theorem or_byte {a x : Int} (h0 : 0 ≤ a) (h1 : a < 16777216) (h2 : 0 ≤ x) (h3 : x < 256) : bits .or .i64 (a * 256) x = 256 * a + x := by
  rw [bits_join .i64 62 (by decide) (fun n h0 h1 => by rw [IntKind.wrap_i64]; omega) 8 _ _ (by omega) (by omega) (by omega) (by omega) (by omega) (by omega)]
  omega
theorem val_lt {xs : List Int} (h : WF xs) (hl : xs.length ≤ 3) : 0 ≤ valB xs ∧ valB xs < 16777216 := by
  rcases xs with _ | ⟨a, _ | ⟨b, _ | ⟨c, _ | ⟨d, t⟩⟩⟩⟩
  · simp [valB]
  · have := h a (by simp); simp [valB]; omega
  · have := h a (by simp); have := h b (by simp); simp [valB]; omega
  · have := h a (by simp); have := h b (by simp); have := h c (by simp); simp [valB]; omega
  · simp at hl
theorem next_ok {g : Nat} {xs : List Int} {w : World} (h : RD w g ⟨xs, 0⟩) {m : Nat} (hl : lim m ≠ 0) (hm : m ≤ xs.length) : Calls Try.prog 13 #[.pointer (some ⟨g, 0, none⟩), .int .i64 m] w fun e w' => e = .returned (.int .i64 (valB (xs.take m))) ∧ RD w' g ⟨xs.drop m, 0⟩ ∧ w.grownBy w' (some g) := by
  have HE := Aside0.mk (err_any h)
  have HI : ∀ w, Calls Try.prog 29 #[.int .i64 (m : Int)] w fun e w' => e = .returned (.bool (lim m != 0)) ∧ w = w' := is_any m
  have hb : (lim m != 0) = true := bne_iff_ne.mpr hl
  rw [hb] at HI
  have HI := Aside0.mk HI
  have hm4 : m ≤ 4 := by rcases lim_of hl with h | h | h <;> omega
  obtain ⟨⟨A, c, h1, h2, h3⟩, hf⟩ := h
  simp only [] at h1 h2 hf
  obtain ⟨i, hi, hz, hs, hbt⟩ := info_parts info8
  have hcut1 : ∀ W : World, (Instr.slice 22 (.slice A xs.length c) none (some (.int .i64 (m : Int))) none).run Try.prog W = .ok (.slice A m c) W := cut_to (P := Try.prog) 22 5 .i64 Try.underlying22 hi A xs.length c (m : Int) (by omega) (by omega) h2.le
  have hcut2 : ∀ W : World, (Instr.slice 22 (.slice A xs.length c) (some (.int .i64 (m : Int))) none none).run Try.prog W = .ok (.slice (if c = m then A else A.map (·.add (m * 1))) (xs.length - m) (c - m)) W := cut_from (P := Try.prog) 22 5 .i64 Try.underlying22 hi 1 hs A xs.length c (m : Int) (by omega) (by omega)
  rw [Nat.mul_one] at hcut2
  have hd2 := h2.drop hm
  have hA2 : ∀ ad, (if c = m then A else A.map (·.add m)) = some ad → ∃ cells, w.heap[ad.block]? = some (.cells cells 5 (0, 0)) := fun ad e => by
    split at e
    · exact h3 ad e
    · rcases A with _ | a0
      · cases e
      · obtain ⟨cells, h4⟩ := h3 a0 rfl
        cases e
        exact ⟨cells, by rw [add_block]; exact h4⟩
  have htk := h2.take hm
  generalize (if c = m then A else A.map (·.add m)) = A2 at hcut2 hd2 hA2
  have c0 : w.cell? ⟨g, 0, none⟩ = some (.slice A xs.length c) := (blk_cell h1 0).trans rfl
  have f0 := blk_frozen h1 0
  have fin : RD (w.setCell ⟨g, 0, none⟩ (.slice A2 (xs.length - m) (c - m))) g ⟨xs.drop m, 0⟩ := by
    have hb2 := blk_put h1 0 (.slice A2 (xs.length - m) (c - m)) rfl
    refine ⟨⟨A2, c - m, by rw [List.length_drop]; exact hb2, hd2.off (fun ad e => ?_), fun ad e => ?_⟩, hf.drop m⟩
    · obtain ⟨cells, h4⟩ := hA2 ad e
      exact (blk_far h4 (p := ⟨g, 0, none⟩) (blk_ne h4 h1 (by decide)) _).trans h4.symm
    · obtain ⟨cells, h4⟩ := hA2 ad e
      exact ⟨cells, blk_far h4 (p := ⟨g, 0, none⟩) (blk_ne h4 h1 (by decide)) _⟩
  have FIN := Aside0.mk fin
  have hlt : (xs.take m).length = m := by rw [List.length_take]; omega
  have HT := Aside0.mk htk
  have HF := Aside0.mk (hf.take m)
  have hd : decide (xs.length < m) = false := decide_eq_false (by omega)
  clear h1 h2 h3 hl hb hi hz hs hbt hd2 hA2 htk fin hf hm
  generalize xs.take m = ys at HT HF hlt
  generalize xs.drop m = zs at FIN
  generalize xs.length = len at *
  subst hlt
  go_enter Try.func13, Try.ntmps13
  go_wp2_with (first | (go_at_call 14; refine HE.out.mono ?_; rintro e w' ⟨rfl, rfl⟩) | (go_at_call 29; refine (HI.out _).mono ?_; rintro e w' ⟨rfl, rfl⟩))
  go_loopw [6, 42] (fun v6 v42 wr => ∃ k : Nat, k ≤ ys.length ∧ v6 = .int .i64 (valB (ys.take k)) ∧ v42 = .int .i64 k ∧ Aside0 (w = wr)) (fun _ v42 _ => ys.length - (intOf v42).toNat)
  case atStart => exact ⟨0, by omega, rfl, rfl, ⟨rfl⟩⟩
  case round =>
    obtain ⟨k, hk, rfl, rfl, HWW⟩ := hrel
    obtain rfl := HWW.out
    clear HWW
    by_cases hlt : k < ys.length
    · obtain ⟨ad, rfl, hcell⟩ := HT.out.at_ hlt
      have hr := wf_rd HF.out hlt
      have hv := val_lt (HF.out.take k) (by rw [List.length_take]; omega)
      have hs : valB (ys.take (k + 1)) = 256 * valB (ys.take k) + rd ys k := by rw [take_succ_rd hlt, val_snoc]
      have HS := Aside0.mk hs
      have hor := or_byte hv.1 hv.2 hr.1 hr.2
      clear hs
      generalize rd ys k = x at hcell hr HS hor
      generalize valB (ys.take k) = s at hv HS hor
      have e1 : wrap64 x = x := w64 (by omega) (by omega)
      have e2 : wrap64 (s * 256) = s * 256 := w64 (by omega) (by omega)
      have hk0 : 0 ≤ (k : Int) := by omega
      have hk1 : (k : Int) < ys.length := by omega
      go_wp2
      go_roundw
      case rel => exact ⟨k + 1, by omega, by rw [HS.out], by go_num, ⟨by first | rfl | trivial⟩⟩
      case measure => simp [intOf]; omega
    · have hk' : ys.take k = ys := List.take_of_length_le (by omega)
      have hdk : decide ((k : Int) < (ys.length : Int)) = false := decide_eq_false (by omega)
      rw [hk']
      clear hk'
      go_wp2
      go_ret
      exact ⟨rfl, FIN.out, grown_set w g 0 _⟩
theorem next_any {g : Nat} {r : Rd} {w : World} (h : RD w g r) (n : Int) : Calls Try.prog 13 #[.pointer (some ⟨g, 0, none⟩), .int .i64 n] w fun e w' => e = .returned (.int .i64 (nextV r n)) ∧ RD w' g (next r n) ∧ w.grownBy w' (some g) := by
  by_cases he : r.e = 0
  · by_cases hl : lim n = 0
    · rw [show nextV r n = 0 by simp [nextV, he, hl], show next r n = ⟨[], 8⟩ by simp [next, he, hl]]
      exact next_stop h n he 8 (.inl ⟨hl, rfl⟩)
    · by_cases hn : (r.b.length : Int) < n
      · rw [show nextV r n = 0 by simp [nextV, he, hl, hn], show next r n = ⟨[], 9⟩ by simp [next, he, hl, hn]]
        exact next_stop h n he 9 (.inr ⟨hl, hn, rfl⟩)
      · rw [show nextV r n = valB (r.b.take n.toNat) by simp [nextV, he, hl, hn], show next r n = ⟨r.b.drop n.toNat, 0⟩ by simp [next, he, hl, hn]]
        obtain ⟨b, e⟩ := r
        obtain rfl : e = 0 := he
        have h4 := lim_of hl
        obtain ⟨m, rfl⟩ : ∃ m : Nat, n = m := ⟨n.toNat, by omega⟩
        exact next_ok h hl (by simp only [] at hn; omega)
  · rw [show nextV r n = 0 by simp [nextV, he], show next r n = r by simp [next, he]]
    exact (next_err h n he).mono (fun e w' ⟨h1, h2⟩ => ⟨h1, by rw [← h2]; exact h, by rw [← h2]; exact World.grownBy.refl _ _⟩)
end Go.Proofs.Ytjgianmcllkagaa.Wi
