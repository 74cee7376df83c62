/- Layer 3 (wire): the document's reader: Next and End. -/
import Derived.Test.YtjgianmcllkagaaWiRd
set_option linter.unusedVariables false
set_option linter.unusedSimpArgs false
namespace Go.Proofs.Ytjgianmcllkagaa.Wi
open Go.RowKit Go.Proofs.YtjgianmcllkagaaW.PrintWords Go.Proofs.YtjgianmcllkagaaW.PrintLast Go.Proofs.YtjgianmcllkagaaW.PrintMore
attribute [local go_sem] max2_int min2_int max_two min_two max_three min_three max_four min_four Try.underlying30
theorem rEnd_any {A : Option Addr} {c : Nat} (r : Rd) (w : World) : Calls Try.prog 17 #[.agg #[.slice A r.b.length c, .int .i64 r.e]] w fun e w' => e = .returned (.int .i64 (endE r)) ∧ Below w.heap.size w w' := by
  by_cases h0 : r.e = 0
  · by_cases h1 : 0 < r.b.length
    · have e : endE r = 8 := by unfold endE; rw [if_pos ⟨h0, h1⟩]
      have d0 : (r.e == 0) = true := beq_iff_eq.mpr h0
      have d1 : decide (0 < r.b.length) = true := decide_eq_true h1
      rw [e]
      clear h0 h1 e
      go_enter Try.func17, Try.ntmps17
      go_wp2
      go_ret
      exact ⟨rfl, below_alloc (Below.refl _ _) _⟩
    · have e : endE r = r.e := by unfold endE; rw [if_neg (fun h => h1 h.2)]
      have d0 : (r.e == 0) = true := beq_iff_eq.mpr h0
      have d1 : decide (0 < r.b.length) = false := decide_eq_false h1
      rw [e]
      clear h0 h1 e
      go_enter Try.func17, Try.ntmps17
      go_wp2
      go_ret
      exact ⟨rfl, below_alloc (Below.refl _ _) _⟩
  · have e : endE r = r.e := by unfold endE; rw [if_neg (fun h => h0 h.1)]
    have d0 : (r.e == 0) = false := beq_eq_false_iff_ne.mpr h0
    rw [e]
    clear h0 e
    go_enter Try.func17, Try.ntmps17
    go_wp2
    go_ret
    exact ⟨rfl, below_alloc (Below.refl _ _) _⟩
theorem rNext_err {A : Option Addr} {c : Nat} {r : Rd} {w : World} (n : Int) (he : r.e ≠ 0) : Calls Try.prog 12 #[.agg #[.slice A r.b.length c, .int .i64 r.e], .int .i64 n] w fun e w' => e = .returned (.tuple #[.agg #[.slice A r.b.length c, .int .i64 r.e], .int .i64 0]) ∧ Below w.heap.size w w' := by
  have d0 : (r.e != 0) = true := bne_iff_ne.mpr he
  clear he
  go_enter Try.func12, Try.ntmps12
  go_wp2
  refine bodyPost_ret (results_ct rfl _ _ (w.heap.size + 1) 30 #[.slice A r.b.length c, .int .i64 r.e] (0, 0) _ rfl ?hheap Try.underlying30 rfl (by kernel_rfl)) rfl ?_
  case hheap => simpa using heap_alloc_new (w.alloc (.cells #[.slice A r.b.length c, .int .i64 r.e] 30)) (.cells #[.slice A r.b.length c, .int .i64 r.e] 30)
  exact ⟨rfl, below_alloc (below_alloc (Below.refl _ _) _) _⟩
theorem rNext_stop {A : Option Addr} {c : Nat} {b : List Int} {w : World} (n : Int) (q : Int) (hq : (lim n = 0 ∧ q = 8) ∨ (lim n ≠ 0 ∧ (b.length : Int) < n ∧ q = 9)) : Calls Try.prog 12 #[.agg #[.slice A b.length c, .int .i64 0], .int .i64 n] w fun e w' => e = .returned (.tuple #[.agg #[.slice none 0 0, .int .i64 q], .int .i64 0]) ∧ Below w.heap.size w w' := by
  have HM : ∀ w, Calls Try.prog 28 #[.int .i64 n] w fun e w' => e = .returned (.int .i64 (lim n)) ∧ w = w' := most_any n
  rcases hq with ⟨hl, rfl⟩ | ⟨hl, hn, rfl⟩
  · rw [hl] at HM
    have HM := Aside0.mk HM
    clear hl
    go_enter Try.func12, Try.ntmps12
    go_wp2_with (first | (go_at_call 28; refine (HM.out _).mono ?_; rintro e w' ⟨rfl, rfl⟩))
    refine bodyPost_ret (results_ct rfl _ _ (w.heap.size + 1) 30 #[.slice none 0 0, .int .i64 8] (0, 0) _ rfl ?hheap Try.underlying30 rfl (by kernel_rfl)) rfl ?_
    case hheap => simpa using heap_alloc_new (w.alloc (.cells #[.slice A b.length c, .int .i64 0] 30)) (.cells #[.slice none 0 0, .int .i64 8] 30)
    exact ⟨rfl, below_alloc (below_alloc (Below.refl _ _) _) _⟩
  · have hb : (lim n == 0) = false := beq_eq_false_iff_ne.mpr hl
    have hd : decide ((b.length : Int) < n) = true := decide_eq_true hn
    clear hl hn
    revert HM hb
    generalize lim n = L
    intro HM hb
    replace HM := Aside0.mk HM
    go_enter Try.func12, Try.ntmps12
    go_wp2_with (first | (go_at_call 28; refine (HM.out _).mono ?_; rintro e w' ⟨rfl, rfl⟩))
    refine bodyPost_ret (results_ct rfl _ _ (w.heap.size + 1) 30 #[.slice none 0 0, .int .i64 9] (0, 0) _ rfl ?hheap2 Try.underlying30 rfl (by kernel_rfl)) rfl ?_
    case hheap2 => simpa using heap_alloc_new (w.alloc (.cells #[.slice A b.length c, .int .i64 0] 30)) (.cells #[.slice none 0 0, .int .i64 9] 30)
    exact ⟨rfl, below_alloc (below_alloc (Below.refl _ _) _) _⟩
theorem rNext_ok {A : Option Addr} {c : Nat} {xs : List Int} {w0 w : World} (h0 : CI .u8 w0 A c xs) (hb0 : Below w0.heap.size w0 w) (hf : WF xs) {m : Nat} (hl : lim m ≠ 0) (hm : m ≤ xs.length) : Calls Try.prog 12 #[.agg #[.slice A xs.length c, .int .i64 0], .int .i64 m] w fun e w' => ∃ A', e = .returned (.tuple #[.agg #[.slice A' (xs.drop m).length (c - m), .int .i64 0], .int .i64 (valB (xs.take m))]) ∧ CI .u8 w0 A' (c - m) (xs.drop m) ∧ Below w.heap.size w w' := by
  have HM : ∀ w, Calls Try.prog 28 #[.int .i64 (m : Int)] w fun e w' => e = .returned (.int .i64 (lim m)) ∧ w = w' := most_any m
  have hm4 : m ≤ 4 := by rcases lim_of hl with h | h | h <;> omega
  obtain ⟨i, hi, hz, hs, hbt⟩ := info_parts info8
  have hcut2 : ∀ W : World, (Instr.slice 22 (.slice A xs.length c) (some (.int .i64 (m : Int))) none none).run Try.prog W = .ok (.slice (if c = m then A else A.map (·.add (m * 1))) (xs.length - m) (c - m)) W := cut_from (P := Try.prog) 22 5 .i64 Try.underlying22 hi 1 hs A xs.length c (m : Int) (by omega) (by omega)
  rw [Nat.mul_one] at hcut2
  have hd2 := Aside0.mk (h0.drop hm)
  have h := h0.below hb0
  generalize (if c = m then A else A.map (·.add m)) = A2 at hcut2 hd2
  have hlt : (xs.drop m).length = xs.length - m := List.length_drop
  have HLT := Aside0.mk hlt
  clear hlt
  have HT := Aside0.mk h
  have HF := Aside0.mk hf
  have hd : decide (xs.length < m) = false := decide_eq_false (by omega)
  have hb : (lim (m : Int) == 0) = false := beq_eq_false_iff_ne.mpr hl
  clear h h0 hb0 hf hl hi hz hs hbt
  revert HM hb
  generalize lim (m : Int) = L
  intro HM hb
  replace HM := Aside0.mk HM
  obtain ⟨W1, hW1⟩ : ∃ W1, W1 = ((w.alloc (.cells #[.slice A xs.length c, .int .i64 0] 30)).alloc (.cells #[.slice none 0 0, .int .i64 0] 30)) := ⟨_, rfl⟩
  have b0 : W1.heap[w.heap.size]? = some (.cells #[.slice A xs.length c, .int .i64 0] 30 (0, 0)) := by rw [hW1]; exact blk_alloc (blk_new _ _) _
  have b1 : W1.heap[w.heap.size + 1]? = some (.cells #[.slice none 0 0, .int .i64 0] 30 (0, 0)) := by rw [hW1]; simpa using heap_alloc_new (w.alloc (.cells #[.slice A xs.length c, .int .i64 0] 30)) (.cells #[.slice none 0 0, .int .i64 0] 30)
  have hbel : Below w.heap.size w W1 := by rw [hW1]; exact below_alloc (below_alloc (Below.refl _ _) _) _
  have c0 : W1.cell? ⟨w.heap.size, 0, none⟩ = some (.slice A xs.length c) := (blk_cell b0 0).trans rfl
  have d0 : W1.cell? ⟨w.heap.size + 1, 0, none⟩ = some (.slice none 0 0) := (blk_cell b1 0).trans rfl
  have d1 : W1.cell? ⟨w.heap.size + 1, 1, none⟩ = some (.int .i64 0) := (blk_cell b1 1).trans rfl
  have f0 := blk_frozen b1 0
  have f1 := blk_frozen b1 1
  have B0 := Aside0.mk b0
  have B1 := Aside0.mk b1
  have BL := Aside0.mk hbel
  clear b0 b1 hbel
  go_enter Try.func12, Try.ntmps12
  go_wp2_with (first | (go_at_call 28; refine (HM.out _).mono ?_; rintro e w' ⟨rfl, rfl⟩))
  rw [← hW1]
  clear hW1
  go_loopw [6, 7] (fun v6 v7 wr => ∃ k : Nat, k ≤ m ∧ v6 = .int .i64 (valB (xs.take k)) ∧ v7 = .int .i64 k ∧ Aside0 (W1 = wr)) (fun _ v7 _ => m - (intOf v7).toNat)
  case atStart => exact ⟨0, by omega, rfl, rfl, ⟨rfl⟩⟩
  case round =>
    obtain ⟨k, hk, rfl, rfl, HWW⟩ := hrel
    obtain rfl := HWW.out
    clear HWW
    by_cases hlt : k < m
    · have hkx : k < xs.length := by omega
      obtain ⟨ad, rfl, hcell⟩ := (HT.out.below BL.out).at_ hkx
      have hr := wf_rd HF.out hkx
      have hv := val_lt (HF.out.take k) (by rw [List.length_take]; omega)
      have hs : valB (xs.take (k + 1)) = 256 * valB (xs.take k) + rd xs k := by rw [take_succ_rd hkx, val_snoc]
      have HS := Aside0.mk hs
      clear hs
      generalize rd xs k = x at hcell hr HS
      generalize valB (xs.take k) = s at hv HS
      have e1 : wrap64 x = x := w64 (by omega) (by omega)
      have e2 : wrap64 (256 * s) = 256 * s := w64 (by omega) (by omega)
      have e3 : wrap64 (256 * s + x) = 256 * s + x := w64 (by omega) (by omega)
      have hk0 : 0 ≤ (k : Int) := by omega
      have hk1 : (k : Int) < xs.length := by omega
      have hdk : decide ((k : Int) < (m : Int)) = true := decide_eq_true (by omega)
      go_wp2
      go_roundw
      case rel => exact ⟨k + 1, by omega, by rw [HS.out], by go_num, ⟨by first | rfl | trivial⟩⟩
      case measure => simp [intOf]; omega
    · obtain rfl : k = m := by omega
      have hdk : decide ((k : Int) < (k : Int)) = false := decide_eq_false (by omega)
      go_wp2
      refine bodyPost_ret (results_ct rfl _ _ (w.heap.size + 1) 30 #[.slice A2 (xs.length - k) (c - k), .int .i64 0] (0, 0) _ rfl ?hheap Try.underlying30 rfl (by kernel_rfl)) rfl ?_
      case hheap => exact blk_put (blk_put B1.out 0 _ rfl) 1 _ rfl
      exact ⟨A2, by rw [HLT.out]; rfl, hd2.out, below_set (below_set BL.out (by simp)) (by simp)⟩
theorem next_wf {r : Rd} (h : WF r.b) (n : Int) : WF (next r n).b := by
  unfold next
  split
  · exact h
  · split
    · exact WF.nil
    · split
      · exact WF.nil
      · exact h.drop _
theorem rNext_any {A : Option Addr} {c : Nat} {r : Rd} {w0 w : World} (h : CI .u8 w0 A c r.b) (hb0 : Below w0.heap.size w0 w) (hf : WF r.b) (n : Int) : Calls Try.prog 12 #[.agg #[.slice A r.b.length c, .int .i64 r.e], .int .i64 n] w fun e w' => ∃ A' c', e = .returned (.tuple #[.agg #[.slice A' (next r n).b.length c', .int .i64 (next r n).e], .int .i64 (nextV r n)]) ∧ CI .u8 w0 A' c' (next r n).b ∧ Below w.heap.size w w' := by
  by_cases he : r.e = 0
  · by_cases hl : lim n = 0
    · rw [show nextV r n = 0 by simp [nextV, he, hl], show next r n = ⟨[], 8⟩ by simp [next, he, hl], he]
      exact (rNext_stop n 8 (.inl ⟨hl, rfl⟩)).mono (fun e w' ⟨h1, h2⟩ => ⟨none, 0, h1, CI.nil _ _, h2⟩)
    · by_cases hn : (r.b.length : Int) < n
      · rw [show nextV r n = 0 by simp [nextV, he, hl, hn], show next r n = ⟨[], 9⟩ by simp [next, he, hl, hn], he]
        exact (rNext_stop n 9 (.inr ⟨hl, hn, rfl⟩)).mono (fun e w' ⟨h1, h2⟩ => ⟨none, 0, h1, CI.nil _ _, h2⟩)
      · rw [show nextV r n = valB (r.b.take n.toNat) by simp [nextV, he, hl, hn], show next r n = ⟨r.b.drop n.toNat, 0⟩ by simp [next, he, hl, hn], he]
        have h4 := lim_of hl
        obtain ⟨m, rfl⟩ : ∃ m : Nat, n = m := ⟨n.toNat, by omega⟩
        exact (rNext_ok h hb0 hf hl (by omega)).mono (fun e w' ⟨A', h1, h2, h3⟩ => ⟨A', _, h1, h2, h3⟩)
  · rw [show nextV r n = 0 by simp [nextV, he], show next r n = r by simp [next, he]]
    exact (rNext_err n he).mono (fun e w' ⟨h1, h2⟩ => ⟨A, c, h1, h, h2⟩)
end Go.Proofs.Ytjgianmcllkagaa.Wi
