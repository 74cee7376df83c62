/- TableBack: the walk. -/
import Derived.Test.YtdebbanloopcgaaDoorTbLZ
import Derived.Deep.RegionHeld3
set_option linter.unusedVariables false
set_option linter.unusedSimpArgs false
namespace Go.Proofs.YtdebbanloopcgaaDoor.Tb
open Go Go.RowKit Go.Proofs.YtdebbanloopcgaaDoorW.PrintWords Go.Proofs.YtdebbanloopcgaaDoorW.PrintLast Go.Proofs.YtdebbanloopcgaaDoorW.PrintMore Go.Proofs.YtdebbanloopcgaaDoor.Cz Go.Proofs.YtdebbanloopcgaaDoor.PTableWrites Go.Proofs.YtdebbanloopcgaaDoor.Cf
attribute [local go_sem] max2_int min2_int max_two min_two max_three min_three max_four min_four Tryd.underlying26 Tryd.underlying46 Tryd.underlying57
/-- One byte turned. -/
theorem turn_law {G : Cfg} (hG : okB G = true) {k : Nat} (hk : k < (encB G).length) {b : Int} (hb : 0 ≤ b ∧ b < 256) :
    Wi.WF ((encB G).set k (bits .xor .u8 (rd (encB G) k) b)) ∧ (b = 0 → decE ((encB G).set k (bits .xor .u8 (rd (encB G) k) b)) = 0 ∧ decCf ((encB G).set k (bits .xor .u8 (rd (encB G) k) b)) = G) ∧ (b ≠ 0 → decE ((encB G).set k (bits .xor .u8 (rd (encB G) k) b)) = 8 ∧ decCf ((encB G).set k (bits .xor .u8 (rd (encB G) k) b)) = nilC) := by
  have he : encB G = Wi.sealB (tabB G) := by
    unfold encB
    rw [if_pos hG]
    rfl
  have hwf := encB_wf G
  obtain ⟨hy, hyb⟩ := Wi.xor_byte (Wi.wf_rd hwf hk) hb
  refine ⟨fun x hx => ?_, fun h0 => ?_, fun h0 => ?_⟩
  · rcases List.mem_or_eq_of_mem_set hx with hx | hx
    · exact hwf x hx
    · rw [hx]; exact hy
  · have e : (encB G).set k (bits .xor .u8 (rd (encB G) k) b) = encB G := by
      rw [hyb.2 h0]
      apply List.ext_getElem?
      intro j
      rw [List.getElem?_set]
      split
      · rename_i hj
        subst hj
        rw [List.getElem?_eq_getElem hk]
        simp [rd, hk]
      · rfl
    rw [e, he]
    exact dec_enc hG
  · have ho : Wi.opE ((encB G).set k (bits .xor .u8 (rd (encB G) k) b)) = 8 := by
      rw [he] at hk hy hyb ⊢
      rw [Wi.sealB_len] at hk
      rw [Wi.opE_turn (tabB_wf G) hk hy, if_neg (fun h => h0 (hyb.1 h))]
    have h8 : decE ((encB G).set k (bits .xor .u8 (rd (encB G) k) b)) = 8 := by
      unfold decE
      rw [ho, if_pos (by decide)]
    refine ⟨h8, ?_⟩
    unfold decCf
    rw [h8, if_neg (by decide)]
set_option maxHeartbeats 16000000 in
set_option maxRecDepth 100000 in
theorem tableBack_any (at_ b : Int) {C : Cfg} {A2 A3 A4 : Option Addr} {Ac2 Ac3 Ac4 : Nat} {w : World} (h : CX w C A2 Ac2 A3 Ac3 A4 Ac4) (hby : 0 ≤ b ∧ b < 256)
    (l2 : C.ws.length ≤ maxLen) (l3 : C.ks.length ≤ maxLen) (l4 : C.ac.length ≤ maxLen) (hg : LG w) :
    Calls Tryd.prog 4 #[.agg #[.int .i64 C.p, .int .i64 C.f, .slice A2 C.ws.length Ac2, .slice A3 C.ks.length Ac3, .slice A4 C.ac.length Ac4], .int .i64 at_, .int .u8 b] w fun e w' => e = .returned (.bool true) ∧ Below w.heap.size w w' := by
  have FA := Aside0.mk (fun w1 (hb : Below w.heap.size w w1) => few_any (h.below hb) l2 l3 l4)
  have HXD := Aside0.mk h.few
  have HG := Aside0.mk hg
  have B1 := Aside0.mk (And.intro (blk_new w (.cells #[.int .i64 C.p, .int .i64 C.f, .slice A2 C.ws.length Ac2, .slice A3 C.ks.length Ac3, .slice A4 C.ac.length Ac4] 26)) (below_alloc (Below.refl w.heap.size w) (.cells #[.int .i64 C.p, .int .i64 C.f, .slice A2 C.ws.length Ac2, .slice A3 C.ks.length Ac3, .slice A4 C.ac.length Ac4] 26)))
  clear h l2 l3 l4 hg
  generalize fewC C = D at FA HXD
  go_enter Tryd.func4, Tryd.ntmps4
  go_upto_region 3 with (first | (go_at_call 9; refine (lives_any (HG.out.below B1.out.2)).mono ?_; rintro e w2 ⟨rfl, hb⟩; have B2_ := Aside0.mk (And.intro (blk_below B1.out.1 hb) (below_step B1.out.2 hb)); clear hb))
  have s0 := (blk_cell B2_.out.1 0).trans (show _ = some (.int .i64 C.p) from rfl)
  have s1 := (blk_cell B2_.out.1 1).trans (show _ = some (.int .i64 C.f) from rfl)
  have s2 := (blk_cell B2_.out.1 2).trans (show _ = some (.slice A2 C.ws.length Ac2) from rfl)
  have s3 := (blk_cell B2_.out.1 3).trans (show _ = some (.slice A3 C.ks.length Ac3) from rfl)
  have s4 := (blk_cell B2_.out.1 4).trans (show _ = some (.slice A4 C.ac.length Ac4) from rfl)
  clear B1
  go_upto_region 4 with (first | (go_at_call 10; refine (FA.out _ B2_.out.2).mono ?_; rintro e w3 ⟨rfl, hb⟩; have B3 := Aside0.mk (below_step B2_.out.2 hb); clear hb) | (go_at_call 14; refine (good_any (HXD.out.below B3.out)).mono ?_; rintro e w5 ⟨G, X2, Xc2, X3, Xc3, X4, Xc4, hG, rfl, hx, hb⟩; have HX := Aside0.mk (hx _ (fun _ _ _ => rfl)); have B5 := Aside0.mk (below_step B3.out hb); have HGG := Aside0.mk hG; clear hb hx hG))
  clear s0 s1 s2 s3 s4 B2_ B3 FA HXD
  have H6 : (w5.alloc (.cells #[.int .i64 G.p, .int .i64 G.f, .slice X2 G.ws.length Xc2, .slice X3 G.ks.length Xc3, .slice X4 G.ac.length Xc4] 26)).heap[w5.heap.size]? = some (.cells #[.int .i64 G.p, .int .i64 G.f, .slice X2 G.ws.length Xc2, .slice X3 G.ks.length Xc3, .slice X4 G.ac.length Xc4] 26 (0, 0)) ∧ Below w5.heap.size w5 (w5.alloc (.cells #[.int .i64 G.p, .int .i64 G.f, .slice X2 G.ws.length Xc2, .slice X3 G.ks.length Xc3, .slice X4 G.ac.length Xc4] 26)) := ⟨blk_new _ _, below_alloc (Below.refl _ _) _⟩
  have HG5 := Aside0.mk (HG.out.below B5.out)
  clear HG
  revert H6
  generalize (w5.alloc (.cells #[.int .i64 G.p, .int .i64 G.f, .slice X2 G.ws.length Xc2, .slice X3 G.ks.length Xc3, .slice X4 G.ac.length Xc4] 26)) = W6
  intro H6
  have gok := good_ok HGG.out
  obtain ⟨k1, k2, k3⟩ := good_le HGG.out
  have hb0 : encB G = sealB (tabB G) := by unfold encB; rw [if_pos gok]
  have hln : 9 ≤ (encB G).length := by rw [hb0, seal_len gok]; omega
  have hl2 := encB_len G
  have hde := dec_enc gok
  rw [← hb0] at hde
  have hck : (chk G).e = 0 := beq_iff_eq.1 gok
  have EN : Aside0 (∀ W, Below w5.heap.size w5 W → Calls Tryd.prog 11 #[.agg #[.int .i64 G.p, .int .i64 G.f, .slice X2 G.ws.length Xc2, .slice X3 G.ks.length Xc3, .slice X4 G.ac.length Xc4]] W fun e w' => ∃ g c, e = .returned (.tuple #[.slice (some ⟨g, 0, none⟩) (encB G).length c, .int .i64 0]) ∧ Wi.OI .u8 5 W w' (.slice (some ⟨g, 0, none⟩) (encB G).length c) (encB G)) := ⟨fun W hb => by
    have h := encode_any (HX.out.below hb) (HG5.out.below hb) k1 k2 k3
    rw [hck] at h
    refine h.mono ?_
    rintro e w' ⟨r, rfl, ho⟩
    have ho' : Wi.OI .u8 5 W w' r (encB G) := ho
    obtain ⟨g, c, rfl, _⟩ := ho'.shape (by omega)
    exact ⟨g, c, rfl, ho'⟩⟩
  have DN : Aside0 (∀ W A c, Below w5.heap.size w5 W → Wi.CI .u8 W A c (encB G) → Calls Tryd.prog 15 #[.slice A (encB G).length c] W fun e w' => ∃ B2 d2 B3 d3 B4 d4, e = .returned (.tuple #[.agg #[.int .i64 G.p, .int .i64 G.f, .slice B2 G.ws.length d2, .slice B3 G.ks.length d3, .slice B4 G.ac.length d4], .int .i64 0]) ∧ CX w' G B2 d2 B3 d3 B4 d4 ∧ Below W.heap.size W w') := ⟨fun W A c hb hc => by
    have h := decode_any hc (encB_wf G) (Nat.le_trans (encB_len G) (by decide)) (HG5.out.below hb)
    unfold DA at h
    rw [hde.1, hde.2] at h
    exact h⟩
  have SA : Aside0 (∀ W B2 d2 B3 d3 B4 d4, Below w5.heap.size w5 W → CX W G B2 d2 B3 d3 B4 d4 → Calls Tryd.prog 16 #[.agg #[.int .i64 G.p, .int .i64 G.f, .slice X2 G.ws.length Xc2, .slice X3 G.ks.length Xc3, .slice X4 G.ac.length Xc4], .agg #[.int .i64 G.p, .int .i64 G.f, .slice B2 G.ws.length d2, .slice B3 G.ks.length d3, .slice B4 G.ac.length d4]] W fun e w' => e = .returned (.bool true) ∧ Below W.heap.size W w') := ⟨fun W B2 d2 B3 d3 B4 d4 hb hx => by
    have h := rsame_any (HX.out.below hb) hx k3 k1 k2
    rw [sB_refl] at h
    exact h⟩
  obtain ⟨k, hk⟩ : ∃ k : Nat, (k : Int) = IntKind.u64.wrap at_ % ((encB G).length : Int) := ⟨(IntKind.u64.wrap at_ % ((encB G).length : Int)).toNat, by have := Wi.u64_nn at_; have := Int.emod_nonneg (IntKind.u64.wrap at_) (show ((encB G).length : Int) ≠ 0 by omega); omega⟩
  have hkl : k < (encB G).length := by have := Int.emod_lt_of_pos (IntKind.u64.wrap at_) (show 0 < ((encB G).length : Int) by omega); omega
  obtain ⟨t1, t2, t3⟩ := turn_law gok hkl hby
  have T0 : Aside0 (b = 0 → ∀ W A c, Below w5.heap.size w5 W → Wi.CI .u8 W A c ((encB G).set k (bits .xor .u8 (rd (encB G) k) b)) → Calls Tryd.prog 15 #[.slice A (encB G).length c] W fun e w' => ∃ B2 d2 B3 d3 B4 d4, e = .returned (.tuple #[.agg #[.int .i64 G.p, .int .i64 G.f, .slice B2 G.ws.length d2, .slice B3 G.ks.length d3, .slice B4 G.ac.length d4], .int .i64 0]) ∧ Below W.heap.size W w') := ⟨fun hz W A c hb hc => by
    have hle : ((encB G).set k (bits .xor .u8 (rd (encB G) k) b)).length = (encB G).length := by rw [List.length_set]
    have h := decode_any hc t1 (by rw [hle]; exact Nat.le_trans (encB_len G) (by decide)) (HG5.out.below hb)
    rw [hle] at h
    unfold DA at h
    rw [(t2 hz).1, (t2 hz).2] at h
    refine h.mono ?_
    rintro e w' ⟨B2, d2, B3, d3, B4, d4, rfl, hx, hbw⟩
    exact ⟨B2, d2, B3, d3, B4, d4, rfl, hbw⟩⟩
  have T1 : Aside0 (b ≠ 0 → ∀ W A c, Below w5.heap.size w5 W → Wi.CI .u8 W A c ((encB G).set k (bits .xor .u8 (rd (encB G) k) b)) → Calls Tryd.prog 15 #[.slice A (encB G).length c] W fun e w' => ∃ B2 d2 B3 d3 B4 d4, e = .returned (.tuple #[.agg #[.int .i64 0, .int .i64 0, .slice B2 0 d2, .slice B3 0 d3, .slice B4 0 d4], .int .i64 8]) ∧ CX w' nilC B2 d2 B3 d3 B4 d4 ∧ Below W.heap.size W w') := ⟨fun hz W A c hb hc => by
    have hle : ((encB G).set k (bits .xor .u8 (rd (encB G) k) b)).length = (encB G).length := by rw [List.length_set]
    have h := decode_any hc t1 (by rw [hle]; exact Nat.le_trans (encB_len G) (by decide)) (HG5.out.below hb)
    rw [hle] at h
    unfold DA at h
    rw [(t3 hz).1, (t3 hz).2] at h
    exact h⟩
  clear hb0 hde hck k1 k2 k3 gok t1 t2 t3
  have SB : Aside0 (∀ W B2 d2 B3 d3 B4 d4, CX W nilC B2 d2 B3 d3 B4 d4 → Calls Tryd.prog 16 #[.agg #[.int .i64 0, .int .i64 0, .slice B2 0 d2, .slice B3 0 d3, .slice B4 0 d4], .agg #[.int .i64 0, .int .i64 0, .slice none 0 0, .slice none 0 0, .slice none 0 0]] W fun e w' => e = .returned (.bool true) ∧ Below W.heap.size W w') := ⟨fun W B2 d2 B3 d3 B4 d4 hx => by
    have h := rsame_any hx (nil_cx W) (by decide) (by decide) (by decide)
    rw [sB_refl] at h
    exact h⟩
  have hw2 : wrap64 (Int.tmod (IntKind.u64.wrap at_) ((encB G).length : Int)) = (k : Int) := by
    rw [Int.tmod_eq_emod_of_nonneg (Wi.u64_nn at_), ← hk, Wi.w64 (by omega) (by omega)]
  clear hk hby
  generalize encB G = bs at *
  obtain ⟨nb, hnb⟩ : ∃ x, bs.length = x := ⟨_, rfl⟩
  rw [hnb] at EN DN T0 T1 hw2 hkl hln hl2
  have HW2 := Aside0.mk hw2
  clear hw2 hnb
  have hk0 : 0 ≤ (k : Int) := by omega
  have hk1 : (k : Int) < (nb : Int) := by omega
  have dn1 : decide ((nb : Int) < 3) = false := decide_eq_false (by omega)
  have dn2 : decide (nb < 3) = false := decide_eq_false (by omega)
  have H6A := Aside0.mk H6
  clear H6 HGG
  have g0 := (blk_cell H6A.out.1 0).trans (show _ = some (.int .i64 G.p) from rfl)
  have g1 := (blk_cell H6A.out.1 1).trans (show _ = some (.int .i64 G.f) from rfl)
  have g2 := (blk_cell H6A.out.1 2).trans (show _ = some (.slice X2 G.ws.length Xc2) from rfl)
  have g3 := (blk_cell H6A.out.1 3).trans (show _ = some (.slice X3 G.ks.length Xc3) from rfl)
  have g4 := (blk_cell H6A.out.1 4).trans (show _ = some (.slice X4 G.ac.length Xc4) from rfl)
  go_upto_region 5 with (first | (go_at_call 11; (with_reducible refine (EN.out _ H6A.out.2).mono ?_); rintro e w7 ⟨gb, c5, rfl, ho⟩; have H7 := Aside0.mk (And.intro (blk_below H6A.out.1 ho.bel) (below_step H6A.out.2 ho.bel)); have O7 := Aside0.mk (ho.less H6A.out.2); clear ho g0 g1 g2 g3 g4))
  go_upto_region 6 with (first | (go_at_call 15; (with_reducible refine (DN.out _ _ _ H7.out.2 O7.out.ci).mono ?_); rintro e w8 ⟨B2, d2, B3, d3, B4, d4, rfl, hx, hb⟩; have H8 := Aside0.mk (And.intro (blk_below H7.out.1 hb) (below_step H7.out.2 hb)); have O8 := Aside0.mk (O7.out.far hb); have X8 := Aside0.mk hx; clear hx hb))
  have H9 : Aside0 ((w8.alloc (.cells #[.int .i64 G.p, .int .i64 G.f, .slice B2 G.ws.length d2, .slice B3 G.ks.length d3, .slice B4 G.ac.length d4] 26)).heap[w5.heap.size]? = some (.cells #[.int .i64 G.p, .int .i64 G.f, .slice X2 G.ws.length Xc2, .slice X3 G.ks.length Xc3, .slice X4 G.ac.length Xc4] 26 (0, 0)) ∧ Below w5.heap.size w5 (w8.alloc (.cells #[.int .i64 G.p, .int .i64 G.f, .slice B2 G.ws.length d2, .slice B3 G.ks.length d3, .slice B4 G.ac.length d4] 26)) ∧ Wi.OI .u8 5 w5 (w8.alloc (.cells #[.int .i64 G.p, .int .i64 G.f, .slice B2 G.ws.length d2, .slice B3 G.ks.length d3, .slice B4 G.ac.length d4] 26)) (.slice (some ⟨gb, 0, none⟩) nb c5) bs ∧ CX (w8.alloc (.cells #[.int .i64 G.p, .int .i64 G.f, .slice B2 G.ws.length d2, .slice B3 G.ks.length d3, .slice B4 G.ac.length d4] 26)) G B2 d2 B3 d3 B4 d4 ∧ (w8.alloc (.cells #[.int .i64 G.p, .int .i64 G.f, .slice B2 G.ws.length d2, .slice B3 G.ks.length d3, .slice B4 G.ac.length d4] 26)).heap[w8.heap.size]? = some (.cells #[.int .i64 G.p, .int .i64 G.f, .slice B2 G.ws.length d2, .slice B3 G.ks.length d3, .slice B4 G.ac.length d4] 26 (0, 0))) := ⟨by
    have hb' := below_alloc (Below.refl w8.heap.size w8) (.cells #[.int .i64 G.p, .int .i64 G.f, .slice B2 G.ws.length d2, .slice B3 G.ks.length d3, .slice B4 G.ac.length d4] 26)
    exact ⟨blk_below H8.out.1 hb', below_step H8.out.2 hb', O8.out.far hb', X8.out.below hb', blk_new _ _⟩⟩
  generalize (w8.alloc (.cells #[.int .i64 G.p, .int .i64 G.f, .slice B2 G.ws.length d2, .slice B3 G.ks.length d3, .slice B4 G.ac.length d4] 26)) = w9 at H9 ⊢
  generalize w8.heap.size = qd at H9 ⊢
  clear H6A H7 O7 H8 O8 X8 EN DN
  have g0 := (blk_cell H9.out.1 0).trans (show _ = some (.int .i64 G.p) from rfl)
  have g1 := (blk_cell H9.out.1 1).trans (show _ = some (.int .i64 G.f) from rfl)
  have g2 := (blk_cell H9.out.1 2).trans (show _ = some (.slice X2 G.ws.length Xc2) from rfl)
  have g3 := (blk_cell H9.out.1 3).trans (show _ = some (.slice X3 G.ks.length Xc3) from rfl)
  have g4 := (blk_cell H9.out.1 4).trans (show _ = some (.slice X4 G.ac.length Xc4) from rfl)
  have x0 := (blk_cell H9.out.2.2.2.2 0).trans (show _ = some (.int .i64 G.p) from rfl)
  have x1 := (blk_cell H9.out.2.2.2.2 1).trans (show _ = some (.int .i64 G.f) from rfl)
  have x2 := (blk_cell H9.out.2.2.2.2 2).trans (show _ = some (.slice B2 G.ws.length d2) from rfl)
  have x3 := (blk_cell H9.out.2.2.2.2 3).trans (show _ = some (.slice B3 G.ks.length d3) from rfl)
  have x4 := (blk_cell H9.out.2.2.2.2 4).trans (show _ = some (.slice B4 G.ac.length d4) from rfl)
  go_upto_region 8 with (first | (go_at_call 16; (with_reducible refine (SA.out _ _ _ _ _ _ _ H9.out.2.1 H9.out.2.2.2.1).mono ?_); rintro e w10 ⟨rfl, hb⟩; have H10 := Aside0.mk (And.intro (below_step H9.out.2.1 hb) (H9.out.2.2.1.far hb)); clear hb g0 g1 g2 g3 g4 x0 x1 x2 x3 x4))
  have s1 := (H10.out.2.cell hkl).1
  have s2 := (H10.out.2.cell hkl).2
  clear H9 SA
  go_upto_region 9 with (first | (rw [HW2.out]))
  clear s1 s2 HW2
  have O11 := Aside0.mk (H10.out.2.put k (bits .xor .u8 (rd bs k) b))
  clear H10
  generalize (w10.setCell ⟨gb, k, none⟩ (.int .u8 (bits .xor .u8 (rd bs k) b))) = w11 at O11 ⊢
  by_cases hz : b = 0
  · have hz2 : (b == 0) = true := beq_iff_eq.mpr hz
    have hz3 : decide (b = 0) = true := decide_eq_true hz
    have TT := Aside0.mk (T0.out hz)
    clear T0 T1 hz
    go_wp2_with (first | (go_at_call 15; (with_reducible refine (TT.out _ _ _ O11.out.bel O11.out.ci).mono ?_); rintro e w12 ⟨E2, z2, E3, z3, E4, z4, rfl, hb⟩; have HB := Aside0.mk (below_alloc (below_step O11.out.bel hb) (.cells #[.int .i64 G.p, .int .i64 G.f, .slice E2 G.ws.length z2, .slice E3 G.ks.length z3, .slice E4 G.ac.length z4] 26)); clear hb))
    go_ret
    exact ⟨rfl, below_step B5.out HB.out⟩
  · have hz2 : (b == 0) = false := beq_eq_false_iff_ne.mpr hz
    have hz3 : decide (b = 0) = false := decide_eq_false hz
    have TT := Aside0.mk (T1.out hz)
    clear T0 T1 hz
    go_upto_region 10 with (first | (go_at_call 15; (with_reducible refine (TT.out _ _ _ O11.out.bel O11.out.ci).mono ?_); rintro e w12 ⟨E2, z2, E3, z3, E4, z4, rfl, hx, hb⟩; have H12 := Aside0.mk (And.intro (below_step O11.out.bel hb) hx); clear hb hx))
    have H13 := Aside0.mk (And.intro (below_alloc H12.out.1 (.cells #[.int .i64 0, .int .i64 0, .slice E2 0 z2, .slice E3 0 z3, .slice E4 0 z4] 26)) (And.intro (H12.out.2.below (below_alloc (Below.refl w12.heap.size w12) (.cells #[.int .i64 0, .int .i64 0, .slice E2 0 z2, .slice E3 0 z3, .slice E4 0 z4] 26))) (blk_new w12 (.cells #[.int .i64 0, .int .i64 0, .slice E2 0 z2, .slice E3 0 z3, .slice E4 0 z4] 26))))
    generalize (w12.alloc (.cells #[.int .i64 0, .int .i64 0, .slice E2 0 z2, .slice E3 0 z3, .slice E4 0 z4] 26)) = w13 at H13 ⊢
    generalize w12.heap.size = q13 at H13 ⊢
    have y0 := (blk_cell H13.out.2.2 0).trans (show _ = some (.int .i64 0) from rfl)
    have y1 := (blk_cell H13.out.2.2 1).trans (show _ = some (.int .i64 0) from rfl)
    have y2 := (blk_cell H13.out.2.2 2).trans (show _ = some (.slice E2 0 z2) from rfl)
    have y3 := (blk_cell H13.out.2.2 3).trans (show _ = some (.slice E3 0 z3) from rfl)
    have y4 := (blk_cell H13.out.2.2 4).trans (show _ = some (.slice E4 0 z4) from rfl)
    go_wp2_with (first | (go_at_call 16; (with_reducible refine (SB.out _ _ _ _ _ _ _ H13.out.2.1).mono ?_); rintro e w14 ⟨rfl, hb⟩; have HB := Aside0.mk (below_step H13.out.1 hb); clear hb))
    go_ret
    exact ⟨rfl, below_step B5.out HB.out⟩
end Go.Proofs.YtdebbanloopcgaaDoor.Tb
