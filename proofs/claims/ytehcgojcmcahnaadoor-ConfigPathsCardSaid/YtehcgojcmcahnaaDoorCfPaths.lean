/- ConfigPaths: the walk. -/
import Derived.Test.YtehcgojcmcahnaaDoorPathR
import Derived.Test.YtehcgojcmcahnaaDoorGw
import Derived.Test.YtehcgojcmcahnaaDoorCfM3
import Derived.Deep.RegionHeld3
set_option linter.unusedVariables false
set_option linter.unusedSimpArgs false
namespace Go.Proofs.YtehcgojcmcahnaaDoor.Cf
open Go.RowKit Go.Proofs.YtehcgojcmcahnaaDoorW.PrintWords Go.Proofs.YtehcgojcmcahnaaDoorW.PrintLast Go.Proofs.YtehcgojcmcahnaaDoorW.PrintMore Go.Proofs.YtehcgojcmcahnaaDoor.Cz Go.Proofs.YtehcgojcmcahnaaDoor.PConfigSame
attribute [local go_sem] max2_int min2_int max_two min_two max_three min_three max_four min_four Tryd.underlying26 Tryd.underlying33 Tryd.underlying35 Tryd.underlying30
theorem into_any2 {C : Cfg} {A2 A3 A4 : Option Addr} {c2 c3 c4 : Nat} {w : World} (h : CX w C A2 c2 A3 c3 A4 c4) (hg : LG w) (h2 : C.ws.length ≤ 10) (h3 : C.ks.length ≤ 10) (h4 : C.ac.length ≤ 10) (b : Int) :
    Calls Tryd.prog 18 #[.agg #[.int .i64 C.p, .int .i64 C.f, .slice A2 C.ws.length c2, .slice A3 C.ks.length c3, .slice A4 C.ac.length c4], .int .i64 b] w fun e w' => ∃ A c, e = .returned (.slice A (il (fun a => pathB C a b) 4).length c) ∧ (il (fun a => pathB C a b) 4).length ≤ c ∧ Kd.C (Kd.int .i64) w' A (il (fun a => pathB C a b) 4).length (il (fun a => pathB C a b) 4) ∧ Below w.heap.size w w' := by
  refine (into_any h hg (by omega) (by omega) (by omega) b).mono fun e w' hh => ?_
  obtain ⟨v, rfl, ho⟩ := hh
  obtain ⟨A, c, rfl, h5, h6⟩ := ho.reads
  exact ⟨A, c, rfl, h6, h5, ho.bel⟩
set_option maxHeartbeats 16000000 in
set_option maxRecDepth 100000 in
theorem configPaths_any (a b : Int) {C : Cfg} {A2 A3 A4 : Option Addr} {Ac2 Ac3 Ac4 : Nat} {w : World} (h : CX w C A2 Ac2 A3 Ac3 A4 Ac4)
    (l2 : C.ws.length ≤ maxLen) (l3 : C.ks.length ≤ maxLen) (l4 : C.ac.length ≤ maxLen) (hg : LG w) :
    Calls Tryd.prog 6 #[.agg #[.int .i64 C.p, .int .i64 C.f, .slice A2 C.ws.length Ac2, .slice A3 C.ks.length Ac3, .slice A4 C.ac.length Ac4], .int .i64 a, .int .i64 b] w fun e w' => e = .returned (.bool true) ∧ Below w.heap.size w w' := by
  have FA := Aside0.mk (fun w1 (hb : Below w.heap.size w w1) => few_any (h.below hb) l2 l3 l4)
  have HXD := Aside0.mk h.few
  have q2 : (fewC C).ws.length ≤ 10 := List.length_take_le _ _
  have q3 : (fewC C).ks.length ≤ 10 := List.length_take_le _ _
  have q4 : (fewC C).ac.length ≤ 10 := List.length_take_le _ _
  have HG := Aside0.mk hg
  have B1 := Aside0.mk (And.intro (blk_new w (.cells #[.int .i64 C.p, .int .i64 C.f, .slice A2 C.ws.length Ac2, .slice A3 C.ks.length Ac3, .slice A4 C.ac.length Ac4] 26)) (below_alloc (Below.refl w.heap.size w) (.cells #[.int .i64 C.p, .int .i64 C.f, .slice A2 C.ws.length Ac2, .slice A3 C.ks.length Ac3, .slice A4 C.ac.length Ac4] 26)))
  clear h l2 l3 l4 hg
  generalize fewC C = D at FA HXD q2 q3 q4
  go_enter Tryd.func6, Tryd.ntmps6
  go_upto_region 3 with (first | (go_at_call 8; refine (lives_any (HG.out.below B1.out.2)).mono ?_; rintro e w2 ⟨rfl, hb⟩; have B2_ := Aside0.mk (And.intro (blk_below B1.out.1 hb) (below_step B1.out.2 hb)); clear hb))
  have s0 := (blk_cell B2_.out.1 0).trans (show _ = some (.int .i64 C.p) from rfl)
  have s1 := (blk_cell B2_.out.1 1).trans (show _ = some (.int .i64 C.f) from rfl)
  have s2 := (blk_cell B2_.out.1 2).trans (show _ = some (.slice A2 C.ws.length Ac2) from rfl)
  have s3 := (blk_cell B2_.out.1 3).trans (show _ = some (.slice A3 C.ks.length Ac3) from rfl)
  have s4 := (blk_cell B2_.out.1 4).trans (show _ = some (.slice A4 C.ac.length Ac4) from rfl)
  clear B1
  go_upto_region 4 with (first | (go_at_call 11; refine (FA.out _ B2_.out.2).mono ?_; rintro e w3 ⟨rfl, hb⟩; have B3 := Aside0.mk (And.intro (blk_below B2_.out.1 hb) (below_step B2_.out.2 hb)); clear hb; have t0 := (blk_cell B3.out.1 0).trans (show _ = some (.int .i64 C.p) from rfl); have t1 := (blk_cell B3.out.1 1).trans (show _ = some (.int .i64 C.f) from rfl); have t2 := (blk_cell B3.out.1 2).trans (show _ = some (.slice A2 C.ws.length Ac2) from rfl); have t3 := (blk_cell B3.out.1 3).trans (show _ = some (.slice A3 C.ks.length Ac3) from rfl); have t4 := (blk_cell B3.out.1 4).trans (show _ = some (.slice A4 C.ac.length Ac4) from rfl); have tf0 := blk_frozen B3.out.1 0; have tf1 := blk_frozen B3.out.1 1; have tf2 := blk_frozen B3.out.1 2; have tf3 := blk_frozen B3.out.1 3; have tf4 := blk_frozen B3.out.1 4))
  clear s0 s1 s2 s3 s4 t0 t1 t2 t3 t4 tf0 tf1 tf2 tf3 tf4
  have H4 := And.intro (put5 (v0 := .int .i64 D.p) (v1 := .int .i64 D.f) (v2 := .slice A2 D.ws.length Ac2) (v3 := .slice A3 D.ks.length Ac3) (v4 := .slice A4 D.ac.length Ac4) B3.out.1) (bel5 (v0 := .int .i64 D.p) (v1 := .int .i64 D.f) (v2 := .slice A2 D.ws.length Ac2) (v3 := .slice A3 D.ks.length Ac3) (v4 := .slice A4 D.ac.length Ac4) B3.out.2 (Nat.le_refl _))
  revert H4
  generalize (((((w3.setCell ⟨w.heap.size, 0, none⟩ (.int .i64 D.p)).setCell ⟨w.heap.size, 1, none⟩ (.int .i64 D.f)).setCell ⟨w.heap.size, 2, none⟩ (.slice A2 D.ws.length Ac2)).setCell ⟨w.heap.size, 3, none⟩ (.slice A3 D.ks.length Ac3)).setCell ⟨w.heap.size, 4, none⟩ (.slice A4 D.ac.length Ac4)) = W4
  intro H4
  have s0 := (blk_cell H4.1 0).trans (show _ = some (.int .i64 D.p) from rfl)
  have s1 := (blk_cell H4.1 1).trans (show _ = some (.int .i64 D.f) from rfl)
  have s2 := (blk_cell H4.1 2).trans (show _ = some (.slice A2 D.ws.length Ac2) from rfl)
  have s3 := (blk_cell H4.1 3).trans (show _ = some (.slice A3 D.ks.length Ac3) from rfl)
  have s4 := (blk_cell H4.1 4).trans (show _ = some (.slice A4 D.ac.length Ac4) from rfl)
  replace H4 := Aside0.mk H4
  clear B3 B2_ FA
  go_upto_region 5 with (first | (go_at_call 10; refine (good_any (HXD.out.below H4.out.2)).mono ?_; rintro e w5 ⟨G, X2, Xc2, X3, Xc3, X4, Xc4, hG, rfl, hx, hb⟩; have HXG := Aside0.mk hx; have H5 := Aside0.mk (And.intro (blk_below H4.out.1 hb) (below_step H4.out.2 hb)); have HGG := Aside0.mk hG; clear hb hx hG))
  clear s0 s1 s2 s3 s4 H4
  have H6 : (w5.alloc (.cells #[.int .i64 G.p, .int .i64 G.f, .slice X2 G.ws.length Xc2, .slice X3 G.ks.length Xc3, .slice X4 G.ac.length Xc4] 26)).heap[w.heap.size]? = some (.cells #[.int .i64 D.p, .int .i64 D.f, .slice A2 D.ws.length Ac2, .slice A3 D.ks.length Ac3, .slice A4 D.ac.length Ac4] 26 (0, 0)) ∧ (w5.alloc (.cells #[.int .i64 G.p, .int .i64 G.f, .slice X2 G.ws.length Xc2, .slice X3 G.ks.length Xc3, .slice X4 G.ac.length Xc4] 26)).heap[w5.heap.size]? = some (.cells #[.int .i64 G.p, .int .i64 G.f, .slice X2 G.ws.length Xc2, .slice X3 G.ks.length Xc3, .slice X4 G.ac.length Xc4] 26 (0, 0)) ∧ CX (w5.alloc (.cells #[.int .i64 G.p, .int .i64 G.f, .slice X2 G.ws.length Xc2, .slice X3 G.ks.length Xc3, .slice X4 G.ac.length Xc4] 26)) G X2 Xc2 X3 Xc3 X4 Xc4 ∧ Below w.heap.size w (w5.alloc (.cells #[.int .i64 G.p, .int .i64 G.f, .slice X2 G.ws.length Xc2, .slice X3 G.ks.length Xc3, .slice X4 G.ac.length Xc4] 26)) := ⟨blk_alloc H5.out.1 _, blk_new _ _, HXG.out.below (below_alloc (Below.refl _ _) _), below_alloc H5.out.2 _⟩
  revert H6
  generalize (w5.alloc (.cells #[.int .i64 G.p, .int .i64 G.f, .slice X2 G.ws.length Xc2, .slice X3 G.ks.length Xc3, .slice X4 G.ac.length Xc4] 26)) = W6
  generalize w5.heap.size = gb
  intro H6
  clear HXG H5
  have s0 := (blk_cell H6.1 0).trans (show _ = some (.int .i64 D.p) from rfl)
  have s1 := (blk_cell H6.1 1).trans (show _ = some (.int .i64 D.f) from rfl)
  have s2 := (blk_cell H6.1 2).trans (show _ = some (.slice A2 D.ws.length Ac2) from rfl)
  have s3 := (blk_cell H6.1 3).trans (show _ = some (.slice A3 D.ks.length Ac3) from rfl)
  have s4 := (blk_cell H6.1 4).trans (show _ = some (.slice A4 D.ac.length Ac4) from rfl)
  have g0 := (blk_cell H6.2.1 0).trans (show _ = some (.int .i64 G.p) from rfl)
  have g1 := (blk_cell H6.2.1 1).trans (show _ = some (.int .i64 G.f) from rfl)
  have g2 := (blk_cell H6.2.1 2).trans (show _ = some (.slice X2 G.ws.length Xc2) from rfl)
  have g3 := (blk_cell H6.2.1 3).trans (show _ = some (.slice X3 G.ks.length Xc3) from rfl)
  have g4 := (blk_cell H6.2.1 4).trans (show _ = some (.slice X4 G.ac.length Xc4) from rfl)
  replace H6 := Aside0.mk H6
  have g2' : G.ws.length ≤ 10 := by have := HGG.out.w; omega
  have g3' : G.ks.length ≤ 10 := by have := HGG.out.k; omega
  have g4' : G.ac.length ≤ 10 := by have := HGG.out.a; have := HGG.out.p; omega
  have HXD6 := Aside0.mk (HXD.out.below H6.out.2.2.2)
  have HG6 := Aside0.mk (HG.out.below H6.out.2.2.2)
  clear HXD HG
  have P1 := Aside0.mk (fun W (hb : Below W6.heap.size W6 W) => path_any (HXD6.out.below hb) (HG6.out.below hb) (by omega) (by omega) (by omega) a b)
  have P2 := Aside0.mk (fun W (hb : Below W6.heap.size W6 W) => path_any (H6.out.2.2.1.below hb) (HG6.out.below hb) (by omega) (by omega) (by omega) a b)
  have R1 := Aside0.mk (fun W (hb : Below W6.heap.size W6 W) => rpath_any (HXD6.out.below hb) q2 q3 q4 a b)
  have R2 := Aside0.mk (fun W (hb : Below W6.heap.size W6 W) => rpath_any (H6.out.2.2.1.below hb) g2' g3' g4' a b)
  have I1 := fun W (hb : Below W6.heap.size W6 W) => into_any2 (HXD6.out.below hb) (HG6.out.below hb) q2 q3 q4 b
  have I2 := fun W (hb : Below W6.heap.size W6 W) => into_any2 (H6.out.2.2.1.below hb) (HG6.out.below hb) g2' g3' g4' b
  have J1 := fun W (hb : Below W6.heap.size W6 W) => rinto_any (HXD6.out.below hb) q2 q3 q4 b
  have J2 := fun W (hb : Below W6.heap.size W6 W) => rinto_any (H6.out.2.2.1.below hb) g2' g3' g4' b
  have S1 := fun (W : World) A B c d h1 h2 h3 h4 => rsame_any' (w := W) (A := A) (B := B) (c := c) (d := d) (l := il (fun x => pathB D x b) 4) h1 h2 (Nat.le_trans (il_len _ _) (by decide)) h3 h4
  have S2 := fun (W : World) A B c d h1 h2 h3 h4 => rsame_any' (w := W) (A := A) (B := B) (c := c) (d := d) (l := il (fun x => pathB G x b) 4) h1 h2 (Nat.le_trans (il_len _ _) (by decide)) h3 h4
  generalize il (fun x => pathB D x b) 4 = L1 at I1 J1 S1
  generalize il (fun x => pathB G x b) 4 = L2 at I2 J2 S2
  generalize L1.length = n1 at I1 J1 S1
  generalize L2.length = n2 at I2 J2 S2
  replace I1 := Aside0.mk I1
  replace I2 := Aside0.mk I2
  replace J1 := Aside0.mk J1
  replace J2 := Aside0.mk J2
  replace S1 := Aside0.mk S1
  replace S2 := Aside0.mk S2
  generalize pathB D a b = pd at P1 R1
  generalize pathB G a b = pg at P2 R2
  have TS := Aside0.mk (fun (W : World) (hb : Below W6.heap.size W6 W) => And.intro (cell_b s0 hb) (And.intro (cell_b s1 hb) (And.intro (cell_b s2 hb) (And.intro (cell_b s3 hb) (And.intro (cell_b s4 hb) (And.intro (cell_b g0 hb) (And.intro (cell_b g1 hb) (And.intro (cell_b g2 hb) (And.intro (cell_b g3 hb) (cell_b g4 hb))))))))))
  have HB := Aside0.mk (below_drew (Below.refl W6.heap.size W6))
  have eqb : ∀ b : Bool, (b == b) = true := fun b => by cases b <;> rfl
  have eqd := eqb pd
  have eqg := eqb pg
  clear eqb
  go_region_held3 (fun w' => w'.cell? ⟨w.heap.size, 0, none⟩ = some (.int .i64 D.p) ∧ w'.cell? ⟨w.heap.size, 1, none⟩ = some (.int .i64 D.f) ∧ w'.cell? ⟨w.heap.size, 2, none⟩ = some (.slice A2 D.ws.length Ac2) ∧ w'.cell? ⟨w.heap.size, 3, none⟩ = some (.slice A3 D.ks.length Ac3) ∧ w'.cell? ⟨w.heap.size, 4, none⟩ = some (.slice A4 D.ac.length Ac4) ∧ w'.cell? ⟨gb, 0, none⟩ = some (.int .i64 G.p) ∧ w'.cell? ⟨gb, 1, none⟩ = some (.int .i64 G.f) ∧ w'.cell? ⟨gb, 2, none⟩ = some (.slice X2 G.ws.length Xc2) ∧ w'.cell? ⟨gb, 3, none⟩ = some (.slice X3 G.ks.length Xc3) ∧ w'.cell? ⟨gb, 4, none⟩ = some (.slice X4 G.ac.length Xc4)) (first | exact TS.out _ HB.out | exact TS.out _ (below_drew (Below.refl _ _)) | go_keep) (first | (go_at_call 15; (with_reducible refine (P1.out _ HB.out).mono ?_); rintro e w7 ⟨rfl, hb⟩; have HBn := Aside0.mk (below_step HB.out hb); clear HB; have HB := HBn; clear HBn; clear hb) | (go_at_call 15; (with_reducible refine (P2.out _ HB.out).mono ?_); rintro e w7 ⟨rfl, hb⟩; have HBn := Aside0.mk (below_step HB.out hb); clear HB; have HB := HBn; clear HBn; clear hb) | (go_at_call 16; (with_reducible refine (R1.out _ HB.out).mono ?_); rintro e w7 ⟨rfl, hb⟩; have HBn := Aside0.mk (below_step HB.out hb); clear HB; have HB := HBn; clear HBn; clear hb) | (go_at_call 16; (with_reducible refine (R2.out _ HB.out).mono ?_); rintro e w7 ⟨rfl, hb⟩; have HBn := Aside0.mk (below_step HB.out hb); clear HB; have HB := HBn; clear HBn; clear hb) | (go_at_call 18; (with_reducible refine (I1.out _ HB.out).mono ?_); rintro e w7 ⟨A, c, rfl, hl, hc, hb⟩; have HI := Aside0.mk hc; have HIL := Aside0.mk hl; clear hc hl; (try (have HJn := Aside0.mk (Kd.C_below HJ.out hb); clear HJ; have HJ := HJn; clear HJn)); have HBn := Aside0.mk (below_step HB.out hb); clear HB; have HB := HBn; clear HBn; clear hb) | (go_at_call 18; (with_reducible refine (I2.out _ HB.out).mono ?_); rintro e w7 ⟨A, c, rfl, hl, hc, hb⟩; have HI := Aside0.mk hc; have HIL := Aside0.mk hl; clear hc hl; (try (have HJn := Aside0.mk (Kd.C_below HJ.out hb); clear HJ; have HJ := HJn; clear HJn)); have HBn := Aside0.mk (below_step HB.out hb); clear HB; have HB := HBn; clear HBn; clear hb) | (go_at_call 19; (with_reducible refine (J1.out _ HB.out).mono ?_); rintro e w7 ⟨A, c, rfl, hl, hc, hb⟩; have HJ := Aside0.mk hc; have HJL := Aside0.mk hl; clear hc hl; (try (have HIn := Aside0.mk (Kd.C_below HI.out hb); clear HI; have HI := HIn; clear HIn)); have HBn := Aside0.mk (below_step HB.out hb); clear HB; have HB := HBn; clear HBn; clear hb) | (go_at_call 19; (with_reducible refine (J2.out _ HB.out).mono ?_); rintro e w7 ⟨A, c, rfl, hl, hc, hb⟩; have HJ := Aside0.mk hc; have HJL := Aside0.mk hl; clear hc hl; (try (have HIn := Aside0.mk (Kd.C_below HI.out hb); clear HI; have HI := HIn; clear HIn)); have HBn := Aside0.mk (below_step HB.out hb); clear HB; have HB := HBn; clear HBn; clear hb) | (go_at_call 17; (with_reducible refine (S1.out _ _ _ _ _ HI.out HJ.out HIL.out HJL.out).mono ?_); rintro e w7 ⟨rfl, hb⟩; clear HI HJ HIL HJL; have HBn := Aside0.mk (below_step HB.out hb); clear HB; have HB := HBn; clear HBn; clear hb) | (go_at_call 17; (with_reducible refine (S2.out _ _ _ _ _ HI.out HJ.out HIL.out HJL.out).mono ?_); rintro e w7 ⟨rfl, hb⟩; clear HI HJ HIL HJL; have HBn := Aside0.mk (below_step HB.out hb); clear HB; have HB := HBn; clear HBn; clear hb))
  all_goals
    go_wp2
    go_ret
    exact ⟨rfl, below_step H6.out.2.2.2 HB.out⟩
end Go.Proofs.YtehcgojcmcahnaaDoor.Cf
