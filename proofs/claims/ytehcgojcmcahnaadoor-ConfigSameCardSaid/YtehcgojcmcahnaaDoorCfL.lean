/- Layer 4 (config): lists. -/
import Derived.Test.YtehcgojcmcahnaaDoorCfK
set_option linter.unusedVariables false
set_option linter.unusedSimpArgs false
namespace Go.Proofs.YtehcgojcmcahnaaDoor.Cf
open Go.RowKit Go.Proofs.YtehcgojcmcahnaaDoorW.PrintWords Go.Proofs.YtehcgojcmcahnaaDoorW.PrintLast Go.Proofs.YtehcgojcmcahnaaDoorW.PrintMore Go.Proofs.YtehcgojcmcahnaaDoor.Cz Go.Proofs.YtehcgojcmcahnaaDoor.PConfigSame
attribute [local go_sem] max2_int min2_int max_two min_two max_three min_three max_four min_four Tryd.underlying26 Tryd.underlying35 Tryd.underlying33
def badW (p f en : Int) (x : S33) : Bool := !btw x.f0 (-1) (p - 1) || (decide (x.f2 < 1) || (decide (f < x.f2) || (decide (x.f1 < en) || decide (f - x.f2 < x.f1))))
def scanW (p f : Int) : Int → Nat → List S33 → Option Nat
  | _, _, [] => none
  | en, i, x :: t => if badW p f en x then some i else scanW p f (x.f1 + x.f2) (i + 1) t
theorem scanW_step (p f en : Int) (xs : List S33) (j : Nat) (h : j < xs.length) : scanW p f en j (xs.drop j) = if badW p f en xs[j] then some j else scanW p f (xs[j].f1 + xs[j].f2) (j + 1) (xs.drop (j + 1)) := by
  rw [List.drop_eq_getElem_cons h]
  rfl
def ls (C : Cfg) : Option (Int × Int) := match scanW C.p C.f 0 0 C.ws with
  | some i => some (3, i)
  | none => if 6 < C.ks.length then some (4, -1) else if 0 ≤ findI (fun x => !rB C.p x) C.ks 0 then some (4, findI (fun x => !rB C.p x) C.ks 0) else if (C.ac.length : Int) ≠ C.p then some (5, -1) else if 0 ≤ findI (fun n => !btw n 0 2) C.ac 0 then some (5, findI (fun n => !btw n 0 2) C.ac 0) else none
set_option maxHeartbeats 8000000 in
theorem lists_any {C : Cfg} {A2 A3 A4 : Option Addr} {c2 c3 c4 : Nat} {w : World} (h : CX w C A2 c2 A3 c3 A4 c4) (hp : 1 ≤ C.p ∧ C.p ≤ 4) (hf : 1 ≤ C.f ∧ C.f ≤ 64) (hk : C.ks.length ≤ 1000) (ha : C.ac.length ≤ 1000) (hw : C.ws.length ≤ 1000) :
    Calls Tryd.prog 26 #[.agg #[.int .i64 C.p, .int .i64 C.f, .slice A2 C.ws.length c2, .slice A3 C.ks.length c3, .slice A4 C.ac.length c4]] w fun e w' => Fres w w' (ls C) e := by
  obtain ⟨res, hres⟩ : ∃ res, ls C = res := ⟨_, rfl⟩
  rw [hres]
  obtain ⟨p, f, ws, ks, ac⟩ := C
  have HRES := Aside0.mk hres
  have HXw := Aside0.mk (show Kd.C k33 w A2 ws.length ws from h.w)
  have HXk := Aside0.mk (show Kd.C k35 w A3 ks.length ks from h.k)
  have HXa := Aside0.mk (show Kd.C (Kd.int .i64) w A4 ac.length ac from h.a)
  clear hres
  simp only [] at hp hf hk ha hw ⊢
  have HP := Aside0.mk hp
  have HF := Aside0.mk hf
  obtain ⟨p1, p4⟩ := hp
  obtain ⟨f1, f64⟩ := hf
  have hmf : ∀ (fn : Fn) (first cap : Array Value) (w : World), (Instr.makeFunc fn first cap).run Tryd.prog w = .ok (.func fn first cap) w := fun _ _ _ _ => rfl
  have HMF := Aside0.mk hmf
  clear h hmf
  have b1 : (w.alloc (.cells #[.int .i64 p, .int .i64 f, .slice A2 ws.length c2, .slice A3 ks.length c3, .slice A4 ac.length c4] 26)).heap[w.heap.size]? = some (.cells #[.int .i64 p, .int .i64 f, .slice A2 ws.length c2, .slice A3 ks.length c3, .slice A4 ac.length c4] 26 (0, 0)) := blk_new _ _
  have B1 := Aside0.mk (And.intro b1 (below_alloc (Below.refl w.heap.size w) (.cells #[.int .i64 p, .int .i64 f, .slice A2 ws.length c2, .slice A3 ks.length c3, .slice A4 ac.length c4] 26)))
  clear b1
  go_enter Tryd.func26, Tryd.ntmps26
  go_wp2
  go_loopw [3, 11] (fun v3 v11 wr => ∃ (j : Nat) (en : Int), j ≤ ws.length ∧ v3 = .int .i64 en ∧ v11 = .int .i64 j ∧ Aside0 (0 ≤ en ∧ en ≤ f ∧ scanW p f 0 0 ws = scanW p f en j (ws.drop j)) ∧ Aside0 (wr.heap[w.heap.size]? = some (.cells #[.int .i64 p, .int .i64 f, .slice A2 ws.length c2, .slice A3 ks.length c3, .slice A4 ac.length c4] 26 (0, 0)) ∧ Below w.heap.size w wr)) (fun _ v11 _ => ws.length - (intOf v11).toNat)
  case atStart => exact ⟨0, 0, by omega, rfl, rfl, ⟨by omega, by omega, rfl⟩, B1⟩
  case round =>
    obtain ⟨j, en, hj, rfl, rfl, HS, HW⟩ := hrel
    clear B1
    by_cases hlt : j < ws.length
    · have hst := scanW_step p f en ws j hlt
      have hx : rd_T33 ws (j : Int) = ws[j] := by simp [rd_T33, hlt]
      have hcs := at_T33 (Kd.C_below HXw.out HW.out.2) (j : Int) (by omega) (by omega)
      rw [hx] at hcs
      rw [← HS.out.2.2] at hst
      have HT := Aside0.mk hst
      clear hst hx
      generalize ws[j] = x at hcs HT
      obtain ⟨x0, x1, x2⟩ := x
      obtain ⟨ad, rfl, e0, e1, e2⟩ := hcs
      have hjt : (j : Int).toNat = j := Int.toNat_natCast j
      rw [hjt] at e0 e1 e2
      clear hjt
      simp only [] at e0 e1 e2 HT
      have hj0 : 0 ≤ (j : Int) := by omega
      have hj1 : (j : Int) < ws.length := by omega
      have hen := HS.out.1
      have hen2 := HS.out.2.1
      have hbb := blk_alloc HW.out.1 (.cells #[.int .i64 x0, .int .i64 x1, .int .i64 x2] 33)
      have d0 : (wr.alloc (.cells #[.int .i64 x0, .int .i64 x1, .int .i64 x2] 33)).cell? ⟨w.heap.size, 0, none⟩ = some (.int .i64 p) := (blk_cell hbb 0).trans rfl
      have d1 : (wr.alloc (.cells #[.int .i64 x0, .int .i64 x1, .int .i64 x2] 33)).cell? ⟨w.heap.size, 1, none⟩ = some (.int .i64 f) := (blk_cell hbb 1).trans rfl
      have HBB0 := Aside0.mk (And.intro hbb (below_alloc HW.out.2 (.cells #[.int .i64 x0, .int .i64 x1, .int .i64 x2] 33)))
      clear hbb
      cases b1 : (btw x0 (-1) (p - 1))
      · have hbad : badW p f en ⟨x0, x1, x2⟩ = true := by simp [badW, b1]
        have HE := Aside0.mk (show scanW p f 0 0 ws = some j by rw [HT.out, hbad]; rfl)
        clear hbad
        go_wp2_with (first | (go_at_call 31; refine (between_any _ _ _ _).mono ?_; rintro e w' ⟨rfl, rfl⟩) | (go_at_call 34; refine (amiss_any _ _ _).mono ?_; rintro e w3 ⟨g, rfl, hg, hb⟩; have HGG := Aside0.mk hg; have HBB := Aside0.mk hb; clear hg hb))
        go_ret
        rw [show res = some ((3 : Int), (j : Int)) by rw [← HRES.out]; unfold ls; simp only []; rw [HE.out]]
        exact ⟨below_step HBB0.out.2 HBB.out, g, rfl, HGG.out⟩
      · cases b2 : (decide (x2 < 1))
        · cases b3 : (decide (f < x2))
          · cases b4 : (decide (x1 < en))
            · have g2 := of_decide_eq_false b2
              have g3 := of_decide_eq_false b3
              have g4 := of_decide_eq_false b4
              cases b5 : (decide (f - x2 < x1))
              · have hgood : badW p f en ⟨x0, x1, x2⟩ = false := by simp [badW, b1, b2, b3, b4, b5]
                have g2 := of_decide_eq_false b2
                have g3 := of_decide_eq_false b3
                have g4 := of_decide_eq_false b4
                have g5 := of_decide_eq_false b5
                have HE := Aside0.mk (show scanW p f 0 0 ws = scanW p f (x1 + x2) (j + 1) (ws.drop (j + 1)) by rw [HT.out, hgood]; rfl)
                have HEN := Aside0.mk (show 0 ≤ x1 + x2 ∧ x1 + x2 ≤ f by omega)
                clear hgood
                go_wp2_with (first | (go_at_call 31; refine (between_any _ _ _ _).mono ?_; rintro e w' ⟨rfl, rfl⟩))
                go_roundw
                case rel => exact ⟨j + 1, x1 + x2, by omega, by go_num, by go_num, ⟨HEN.out.1, HEN.out.2, HE.out⟩, HBB0⟩
                case measure => simp [intOf]; omega
              · have hbad : badW p f en ⟨x0, x1, x2⟩ = true := by simp [badW, b1, b2, b3, b4, b5]
                have HE := Aside0.mk (show scanW p f 0 0 ws = some j by rw [HT.out, hbad]; rfl)
                clear hbad
                go_wp2_with (first | (go_at_call 31; refine (between_any _ _ _ _).mono ?_; rintro e w' ⟨rfl, rfl⟩) | (go_at_call 34; refine (amiss_any _ _ _).mono ?_; rintro e w3 ⟨g, rfl, hg, hb⟩; have HGG := Aside0.mk hg; have HBB := Aside0.mk hb; clear hg hb))
                go_ret
                rw [show res = some ((3 : Int), (j : Int)) by rw [← HRES.out]; unfold ls; simp only []; rw [HE.out]]
                exact ⟨below_step HBB0.out.2 HBB.out, g, rfl, HGG.out⟩
            · have hbad : badW p f en ⟨x0, x1, x2⟩ = true := by simp [badW, b1, b2, b3, b4]
              have HE := Aside0.mk (show scanW p f 0 0 ws = some j by rw [HT.out, hbad]; rfl)
              clear hbad
              go_wp2_with (first | (go_at_call 31; refine (between_any _ _ _ _).mono ?_; rintro e w' ⟨rfl, rfl⟩) | (go_at_call 34; refine (amiss_any _ _ _).mono ?_; rintro e w3 ⟨g, rfl, hg, hb⟩; have HGG := Aside0.mk hg; have HBB := Aside0.mk hb; clear hg hb))
              go_ret
              rw [show res = some ((3 : Int), (j : Int)) by rw [← HRES.out]; unfold ls; simp only []; rw [HE.out]]
              exact ⟨below_step HBB0.out.2 HBB.out, g, rfl, HGG.out⟩
          · have hbad : badW p f en ⟨x0, x1, x2⟩ = true := by simp [badW, b1, b2, b3]
            have HE := Aside0.mk (show scanW p f 0 0 ws = some j by rw [HT.out, hbad]; rfl)
            clear hbad
            go_wp2_with (first | (go_at_call 31; refine (between_any _ _ _ _).mono ?_; rintro e w' ⟨rfl, rfl⟩) | (go_at_call 34; refine (amiss_any _ _ _).mono ?_; rintro e w3 ⟨g, rfl, hg, hb⟩; have HGG := Aside0.mk hg; have HBB := Aside0.mk hb; clear hg hb))
            go_ret
            rw [show res = some ((3 : Int), (j : Int)) by rw [← HRES.out]; unfold ls; simp only []; rw [HE.out]]
            exact ⟨below_step HBB0.out.2 HBB.out, g, rfl, HGG.out⟩
        · have hbad : badW p f en ⟨x0, x1, x2⟩ = true := by simp [badW, b1, b2]
          have HE := Aside0.mk (show scanW p f 0 0 ws = some j by rw [HT.out, hbad]; rfl)
          clear hbad
          go_wp2_with (first | (go_at_call 31; refine (between_any _ _ _ _).mono ?_; rintro e w' ⟨rfl, rfl⟩) | (go_at_call 34; refine (amiss_any _ _ _).mono ?_; rintro e w3 ⟨g, rfl, hg, hb⟩; have HGG := Aside0.mk hg; have HBB := Aside0.mk hb; clear hg hb))
          go_ret
          rw [show res = some ((3 : Int), (j : Int)) by rw [← HRES.out]; unfold ls; simp only []; rw [HE.out]]
          exact ⟨below_step HBB0.out.2 HBB.out, g, rfl, HGG.out⟩
    · have hd : decide ((j : Int) < (ws.length : Int)) = false := decide_eq_false (by omega)
      have hdn : decide (j < ws.length) = false := decide_eq_false hlt
      obtain rfl : j = ws.length := by omega
      have hsc := HS.out.2.2
      rw [List.drop_length] at hsc
      have hres : (if 6 < ks.length then some ((4 : Int), (-1 : Int)) else if 0 ≤ findI (fun x => !rB p x) ks 0 then some (4, findI (fun x => !rB p x) ks 0) else if (ac.length : Int) ≠ p then some (5, -1) else if 0 ≤ findI (fun n => !btw n 0 2) ac 0 then some (5, findI (fun n => !btw n 0 2) ac 0) else none) = res := by
        rw [← HRES.out]
        unfold ls
        simp only []
        rw [show scanW p f 0 0 ws = none from hsc]
      clear HRES
      clear hsc HS hlt
      have d0 : wr.cell? ⟨w.heap.size, 0, none⟩ = some (.int .i64 p) := (blk_cell HW.out.1 0).trans rfl
      have d3 : wr.cell? ⟨w.heap.size, 3, none⟩ = some (.slice A3 ks.length c3) := (blk_cell HW.out.1 3).trans rfl
      have d4 : wr.cell? ⟨w.heap.size, 4, none⟩ = some (.slice A4 ac.length c4) := (blk_cell HW.out.1 4).trans rfl
      have hmf := HMF.out
      by_cases h6 : 6 < ks.length
      · have t1 : decide (6 < (ks.length : Int)) = true := decide_eq_true (by omega)
        have t1n : decide (6 < ks.length) = true := decide_eq_true h6
        rw [if_pos h6] at hres
        subst hres
        go_wp2_with (first | (go_at_call 34; refine (amiss_any _ _ _).mono ?_; rintro e w3 ⟨g, rfl, hg, hb⟩; have HGG := Aside0.mk hg; have HBB := Aside0.mk hb; clear hg hb))
        go_ret
        exact ⟨below_step HW.out.2 HBB.out, g, rfl, HGG.out⟩
      · have t1 : decide (6 < (ks.length : Int)) = false := decide_eq_false (by omega)
        have t1n : decide (6 < ks.length) = false := decide_eq_false h6
        rw [if_neg h6] at hres
        have HK := Aside0.mk (idxK_any (c := c3) (Kd.C_below HXk.out HW.out.2) (by omega) HW.out.1)
        clear h6
        generalize findI (fun x => !rB p x) ks 0 = rk at HK hres
        by_cases hrk : 0 ≤ rk
        · have t2 : decide (0 ≤ rk) = true := decide_eq_true hrk
          rw [if_pos hrk] at hres
          subst hres
          go_wp2_with (first | (go_at_call 35; refine HK.out.mono ?_; clear HK; rintro e w2 ⟨rfl, hb⟩; have HB2 := Aside0.mk (below_step HW.out.2 hb); have b2 := Aside0.mk (blk_below HW.out.1 hb); have d0 : w2.cell? ⟨w.heap.size, 0, none⟩ = some (.int .i64 p) := (blk_cell b2.out 0).trans rfl; have d4 : w2.cell? ⟨w.heap.size, 4, none⟩ = some (.slice A4 ac.length c4) := (blk_cell b2.out 4).trans rfl; have HA2 := Aside0.mk (idxA_any (w := w2) (c := c4) (Kd.C_below (Kd.C_below HXa.out HW.out.2) hb) (by omega)); clear hb) | (go_at_call 34; refine (amiss_any _ _ _).mono ?_; rintro e w3 ⟨g, rfl, hg, hb⟩; have HGG := Aside0.mk hg; have HBB := Aside0.mk hb; clear hg hb))
          go_ret
          exact ⟨below_step HB2.out HBB.out, g, rfl, HGG.out⟩
        · have t2 : decide (0 ≤ rk) = false := decide_eq_false hrk
          rw [if_neg hrk] at hres
          by_cases hac : (ac.length : Int) = p
          · have t3 : ((ac.length : Int) != p) = false := bne_eq_false_iff_eq.mpr hac
            rw [if_neg (fun h => h hac)] at hres
            have HAX : ∃ ra, findI (fun n => !btw n 0 2) ac 0 = ra := ⟨_, rfl⟩
            obtain ⟨ra, hra⟩ := HAX
            have HRA := Aside0.mk hra
            rw [hra] at hres
            clear hra hac
            by_cases hra : 0 ≤ ra
            · have t4 : decide (0 ≤ ra) = true := decide_eq_true hra
              rw [if_pos hra] at hres
              subst hres
              go_wp2_with (first | (go_at_call 35; refine HK.out.mono ?_; clear HK; rintro e w2 ⟨rfl, hb⟩; have HB2 := Aside0.mk (below_step HW.out.2 hb); have b2 := Aside0.mk (blk_below HW.out.1 hb); have d0 : w2.cell? ⟨w.heap.size, 0, none⟩ = some (.int .i64 p) := (blk_cell b2.out 0).trans rfl; have d4 : w2.cell? ⟨w.heap.size, 4, none⟩ = some (.slice A4 ac.length c4) := (blk_cell b2.out 4).trans rfl; have HA2 := Aside0.mk (idxA_any (w := w2) (c := c4) (Kd.C_below (Kd.C_below HXa.out HW.out.2) hb) (by omega)); clear hb) | (go_at_call 38; have HA3 := HA2.out; rw [HRA.out] at HA3; refine HA3.mono ?_; clear HA2 HA3; rintro e w' ⟨rfl, rfl⟩) | (go_at_call 34; refine (amiss_any _ _ _).mono ?_; rintro e w3 ⟨g, rfl, hg, hb⟩; have HGG := Aside0.mk hg; have HBB := Aside0.mk hb; clear hg hb))
              go_ret
              exact ⟨below_step HB2.out HBB.out, g, rfl, HGG.out⟩
            · have t4 : decide (0 ≤ ra) = false := decide_eq_false hra
              rw [if_neg hra] at hres
              subst hres
              go_wp2_with (first | (go_at_call 35; refine HK.out.mono ?_; clear HK; rintro e w2 ⟨rfl, hb⟩; have HB2 := Aside0.mk (below_step HW.out.2 hb); have b2 := Aside0.mk (blk_below HW.out.1 hb); have d0 : w2.cell? ⟨w.heap.size, 0, none⟩ = some (.int .i64 p) := (blk_cell b2.out 0).trans rfl; have d4 : w2.cell? ⟨w.heap.size, 4, none⟩ = some (.slice A4 ac.length c4) := (blk_cell b2.out 4).trans rfl; have HA2 := Aside0.mk (idxA_any (w := w2) (c := c4) (Kd.C_below (Kd.C_below HXa.out HW.out.2) hb) (by omega)); clear hb) | (go_at_call 38; have HA3 := HA2.out; rw [HRA.out] at HA3; refine HA3.mono ?_; clear HA2 HA3; rintro e w' ⟨rfl, rfl⟩) | (go_at_call 34; refine (amiss_any _ _ _).mono ?_; rintro e w3 ⟨g, rfl, hg, hb⟩; have HGG := Aside0.mk hg; have HBB := Aside0.mk hb; clear hg hb))
              go_ret
              exact ⟨HB2.out, rfl⟩
          · have t3 : ((ac.length : Int) != p) = true := bne_iff_ne.mpr hac
            rw [if_pos hac] at hres
            subst hres
            go_wp2_with (first | (go_at_call 35; refine HK.out.mono ?_; clear HK; rintro e w2 ⟨rfl, hb⟩; have HB2 := Aside0.mk (below_step HW.out.2 hb); have b2 := Aside0.mk (blk_below HW.out.1 hb); have d0 : w2.cell? ⟨w.heap.size, 0, none⟩ = some (.int .i64 p) := (blk_cell b2.out 0).trans rfl; have d4 : w2.cell? ⟨w.heap.size, 4, none⟩ = some (.slice A4 ac.length c4) := (blk_cell b2.out 4).trans rfl; have HA2 := Aside0.mk (idxA_any (w := w2) (c := c4) (Kd.C_below (Kd.C_below HXa.out HW.out.2) hb) (by omega)); clear hb) | (go_at_call 34; refine (amiss_any _ _ _).mono ?_; rintro e w3 ⟨g, rfl, hg, hb⟩; have HGG := Aside0.mk hg; have HBB := Aside0.mk hb; clear hg hb))
            go_ret
            exact ⟨below_step HB2.out HBB.out, g, rfl, HGG.out⟩
end Go.Proofs.YtehcgojcmcahnaaDoor.Cf
