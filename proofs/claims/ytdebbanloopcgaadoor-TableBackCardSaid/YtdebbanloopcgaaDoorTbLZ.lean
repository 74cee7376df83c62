/- TableSizes: the walk. -/
import Derived.Test.YtdebbanloopcgaaDoorTbQ3
import Derived.Test.YtdebbanloopcgaaDoorTbGw
import Derived.Test.YtdebbanloopcgaaDoorFew
import Derived.Deep.RegionHeld3
set_option linter.unusedVariables false
set_option linter.unusedSimpArgs false
namespace Go.Proofs.YtdebbanloopcgaaDoor.Tb
open Go Go.RowKit Go.Proofs.YtdebbanloopcgaaDoorW.PrintWords Go.Proofs.YtdebbanloopcgaaDoorW.PrintLast Go.Proofs.YtdebbanloopcgaaDoorW.PrintMore Go.Proofs.YtdebbanloopcgaaDoor.Cz Go.Proofs.YtdebbanloopcgaaDoor.PTableWrites Go.Proofs.YtdebbanloopcgaaDoor.Cf
attribute [local go_sem] max2_int min2_int max_two min_two max_three min_three max_four min_four Tryd.underlying26 Tryd.underlying46 Tryd.underlying57
theorem good_ok {G : Cfg} (h : GoodC G) : okB G = true := beq_iff_eq.2 (by rw [h.chk])
theorem good_le {G : Cfg} (h : GoodC G) : G.ks.length ≤ 1000 ∧ G.ac.length ≤ 1000 ∧ G.ws.length ≤ 1000 := by
  have := h.k
  have := h.a
  have := h.p
  have := h.w
  omega
set_option maxHeartbeats 16000000 in
set_option maxRecDepth 100000 in
theorem tableSizes_any {C : Cfg} {A2 A3 A4 : Option Addr} {Ac2 Ac3 Ac4 : Nat} {w : World} (h : CX w C A2 Ac2 A3 Ac3 A4 Ac4) 
    (l2 : C.ws.length ≤ maxLen) (l3 : C.ks.length ≤ maxLen) (l4 : C.ac.length ≤ maxLen) (hg : LG w) :
    Calls Tryd.prog 8 #[.agg #[.int .i64 C.p, .int .i64 C.f, .slice A2 C.ws.length Ac2, .slice A3 C.ks.length Ac3, .slice A4 C.ac.length Ac4]] w fun e w' => e = .returned (.bool true) ∧ Below w.heap.size w w' := by
  have FA := Aside0.mk (fun w1 (hb : Below w.heap.size w w1) => few_any (h.below hb) l2 l3 l4)
  have HXD := Aside0.mk h.few
  have HG := Aside0.mk hg
  have B1 := Aside0.mk (And.intro (blk_new w (.cells #[.int .i64 C.p, .int .i64 C.f, .slice A2 C.ws.length Ac2, .slice A3 C.ks.length Ac3, .slice A4 C.ac.length Ac4] 26)) (below_alloc (Below.refl w.heap.size w) (.cells #[.int .i64 C.p, .int .i64 C.f, .slice A2 C.ws.length Ac2, .slice A3 C.ks.length Ac3, .slice A4 C.ac.length Ac4] 26)))
  clear h l2 l3 l4 hg
  generalize fewC C = D at FA HXD
  go_enter Tryd.func8, Tryd.ntmps8
  go_upto_region 3 with (first | (go_at_call 9; refine (lives_any (HG.out.below B1.out.2)).mono ?_; rintro e w2 ⟨rfl, hb⟩; have B2_ := Aside0.mk (And.intro (blk_below B1.out.1 hb) (below_step B1.out.2 hb)); clear hb))
  have s0 := (blk_cell B2_.out.1 0).trans (show _ = some (.int .i64 C.p) from rfl)
  have s1 := (blk_cell B2_.out.1 1).trans (show _ = some (.int .i64 C.f) from rfl)
  have s2 := (blk_cell B2_.out.1 2).trans (show _ = some (.slice A2 C.ws.length Ac2) from rfl)
  have s3 := (blk_cell B2_.out.1 3).trans (show _ = some (.slice A3 C.ks.length Ac3) from rfl)
  have s4 := (blk_cell B2_.out.1 4).trans (show _ = some (.slice A4 C.ac.length Ac4) from rfl)
  clear B1
  go_upto_region 4 with (first | (go_at_call 10; refine (FA.out _ B2_.out.2).mono ?_; rintro e w3 ⟨rfl, hb⟩; have B3 := Aside0.mk (below_step B2_.out.2 hb); clear hb) | (go_at_call 14; refine (good_any (HXD.out.below B3.out)).mono ?_; rintro e w5 ⟨G, X2, Xc2, X3, Xc3, X4, Xc4, hG, rfl, hx, hb⟩; have HX := Aside0.mk (hx _ (fun _ _ _ => rfl)); have B5 := Aside0.mk (below_step B3.out hb); have HGG := Aside0.mk hG; clear hb hx hG))
  clear s0 s1 s2 s3 s4 B2_ B3 FA HXD
  have H6 : (w5.alloc (.cells #[.int .i64 G.p, .int .i64 G.f, .slice X2 G.ws.length Xc2, .slice X3 G.ks.length Xc3, .slice X4 G.ac.length Xc4] 26)).heap[w5.heap.size]? = some (.cells #[.int .i64 G.p, .int .i64 G.f, .slice X2 G.ws.length Xc2, .slice X3 G.ks.length Xc3, .slice X4 G.ac.length Xc4] 26 (0, 0)) ∧ Below w5.heap.size w5 (w5.alloc (.cells #[.int .i64 G.p, .int .i64 G.f, .slice X2 G.ws.length Xc2, .slice X3 G.ks.length Xc3, .slice X4 G.ac.length Xc4] 26)) := ⟨blk_new _ _, below_alloc (Below.refl _ _) _⟩
  have HG5 := Aside0.mk (HG.out.below B5.out)
  clear HG
  revert H6
  generalize (w5.alloc (.cells #[.int .i64 G.p, .int .i64 G.f, .slice X2 G.ws.length Xc2, .slice X3 G.ks.length Xc3, .slice X4 G.ac.length Xc4] 26)) = W6
  intro H6
  have gok := good_ok HGG.out
  obtain ⟨k1, k2, k3⟩ := good_le HGG.out
  have hb0 : encB G = sealB (tabB G) := by unfold encB; rw [if_pos gok]
  have hln : (encB G).length = 9 + 3 * G.ws.length + 17 * G.ks.length + G.ac.length := by rw [hb0]; exact seal_len gok
  have hde := dec_enc gok
  rw [← hb0] at hde
  have hck : (chk G).e = 0 := beq_iff_eq.1 gok
  have EN : Aside0 (∀ W, Below w5.heap.size w5 W → Calls Tryd.prog 11 #[.agg #[.int .i64 G.p, .int .i64 G.f, .slice X2 G.ws.length Xc2, .slice X3 G.ks.length Xc3, .slice X4 G.ac.length Xc4]] W fun e w' => ∃ r, e = .returned (.tuple #[r, .int .i64 0]) ∧ Wi.OI .u8 5 W w' r (encB G)) := ⟨fun W hb => by
    have h := encode_any (HX.out.below hb) (HG5.out.below hb) k1 k2 k3
    rw [hck] at h
    exact h⟩
  have SN : Aside0 (∀ W, Below w5.heap.size w5 W → Calls Tryd.prog 13 #[.agg #[.int .i64 G.p, .int .i64 G.f, .slice X2 G.ws.length Xc2, .slice X3 G.ks.length Xc3, .slice X4 G.ac.length Xc4]] W fun e w' => e = .returned (.int .i64 ((encB G).length : Nat)) ∧ Below W.heap.size W w') := ⟨fun W hb => size_any (HX.out.below hb) (HG5.out.below hb) k1 k2 k3⟩
  have CNT : Aside0 (∀ W A c, Below w5.heap.size w5 W → Wi.CI .u8 W A c (encB G) → Calls Tryd.prog 19 #[.slice A (encB G).length c] W fun e w' => e = .returned (.tuple #[.int .i64 (G.ws.length : Nat), .int .i64 (G.ks.length : Nat), .int .i64 (G.ac.length : Nat), .int .i64 0]) ∧ Below W.heap.size W w') := ⟨fun W A c hb hc => by
    have h := count_any hc (encB_wf G) (Nat.le_trans (encB_len G) (by decide)) (HG5.out.below hb)
    rw [hde.1, hde.2] at h
    exact h⟩
  have hac := HGG.out.a
  have hw6 := HGG.out.w.2
  have hk5 := HGG.out.k
  have ha4 : G.ac.length ≤ 4 := by have := HGG.out.p; omega
  clear hb0 hde hck k1 k2 k3 gok HGG
  generalize encB G = bs at EN SN CNT hln
  have HLN := Aside0.mk (And.intro hln (And.intro hac (And.intro hw6 (And.intro hk5 ha4))))
  clear hln hac hw6 hk5 ha4
  have H6A := Aside0.mk H6
  clear H6
  have g0 := (blk_cell H6A.out.1 0).trans (show _ = some (.int .i64 G.p) from rfl)
  have g1 := (blk_cell H6A.out.1 1).trans (show _ = some (.int .i64 G.f) from rfl)
  have g2 := (blk_cell H6A.out.1 2).trans (show _ = some (.slice X2 G.ws.length Xc2) from rfl)
  have g3 := (blk_cell H6A.out.1 3).trans (show _ = some (.slice X3 G.ks.length Xc3) from rfl)
  have g4 := (blk_cell H6A.out.1 4).trans (show _ = some (.slice X4 G.ac.length Xc4) from rfl)
  go_upto_region 5 with (first | (go_at_call 11; (with_reducible refine (EN.out _ H6A.out.2).mono ?_); rintro e w7 ⟨r, rfl, ho⟩; obtain ⟨A5, c5, rfl, hci⟩ := ho.reads; have H7 := Aside0.mk (And.intro (blk_below H6A.out.1 ho.bel) (below_step H6A.out.2 ho.bel)); have C7 := Aside0.mk hci; clear ho hci g0 g1 g2 g3 g4))
  go_upto_region 6 with (first | (go_at_call 19; (with_reducible refine (CNT.out _ _ _ H7.out.2 C7.out).mono ?_); rintro e w8 ⟨rfl, hb⟩; have H8 := Aside0.mk (And.intro (blk_below H7.out.1 hb) (below_step H7.out.2 hb)); clear hb))
  have g0 := (blk_cell H8.out.1 0).trans (show _ = some (.int .i64 G.p) from rfl)
  have g1 := (blk_cell H8.out.1 1).trans (show _ = some (.int .i64 G.f) from rfl)
  have g2 := (blk_cell H8.out.1 2).trans (show _ = some (.slice X2 G.ws.length Xc2) from rfl)
  have g3 := (blk_cell H8.out.1 3).trans (show _ = some (.slice X3 G.ks.length Xc3) from rfl)
  have g4 := (blk_cell H8.out.1 4).trans (show _ = some (.slice X4 G.ac.length Xc4) from rfl)
  clear H6A EN CNT C7 H7
  obtain ⟨hln, hac, hw6, hk5, ha4⟩ := HLN.out
  have m1 : wrap64 (3 * (G.ws.length : Int)) = 3 * (G.ws.length : Int) := by unfold wrap64; omega
  have m2 : wrap64 (9 + 3 * (G.ws.length : Int)) = 9 + 3 * (G.ws.length : Int) := by unfold wrap64; omega
  have m3 : wrap64 (17 * (G.ks.length : Int)) = 17 * (G.ks.length : Int) := by unfold wrap64; omega
  have m4 : wrap64 (9 + 3 * (G.ws.length : Int) + 17 * (G.ks.length : Int)) = 9 + 3 * (G.ws.length : Int) + 17 * (G.ks.length : Int) := by unfold wrap64; omega
  have m5 : wrap64 (9 + 3 * (G.ws.length : Int) + 17 * (G.ks.length : Int) + (G.ac.length : Int)) = 9 + 3 * (G.ws.length : Int) + 17 * (G.ks.length : Int) + (G.ac.length : Int) := by unfold wrap64; omega
  have e1 : ((bs.length : Int) == 9 + 3 * (G.ws.length : Int) + 17 * (G.ks.length : Int) + (G.ac.length : Int)) = true := beq_iff_eq.2 (by omega)
  have e2 : decide ((bs.length : Int) = 9 + 3 * (G.ws.length : Int) + 17 * (G.ks.length : Int) + (G.ac.length : Int)) = true := decide_eq_true (by omega)
  have e3 : ((G.ac.length : Int) == G.p) = true := beq_iff_eq.2 hac
  have e4 : decide ((G.ac.length : Int) = G.p) = true := decide_eq_true hac
  clear hln hac hw6 hk5 ha4
  go_wp2_with (first | (go_at_call 13; (with_reducible refine (SN.out _ H8.out.2).mono ?_); rintro e w9 ⟨rfl, hb⟩; have HB := Aside0.mk (below_step H8.out.2 hb); clear hb))
  go_ret
  exact ⟨rfl, below_step B5.out HB.out⟩
end Go.Proofs.YtdebbanloopcgaaDoor.Tb
