/- Layer 4 (config): CfS, CfA, CfK, CfL, CfC, laid into one text by wip/merge.py. -/
import Derived.Test.YtdebbanloopcgaaDoorCzR
import Derived.Test.YtdebbanloopcgaaDoorPTableWritesx0
/- Layer 4 (config): windows and channels as the kit's printer writes them (its text for ConfigSame). -/

/- Layer 4 (config): what is small: between, amiss, heads; a config in memory. -/
set_option linter.unusedVariables false
set_option linter.unusedSimpArgs false
namespace Go.Proofs.YtdebbanloopcgaaDoor.Cf
open Go.RowKit Go.Proofs.YtdebbanloopcgaaDoorW.PrintWords Go.Proofs.YtdebbanloopcgaaDoorW.PrintLast Go.Proofs.YtdebbanloopcgaaDoorW.PrintMore Go.Proofs.YtdebbanloopcgaaDoor.Cz Go.Proofs.YtdebbanloopcgaaDoor.PTableWrites
attribute [local go_sem] max2_int min2_int max_two min_two max_three min_three max_four min_four Tryd.underlying26 Tryd.underlying48 Tryd.underlying83
/-- A config in plain words. -/
structure Cfg where
  p : Int
  f : Int
  ws : List S46
  ks : List S57
  ac : List Int
/-- Its lists in memory. -/
structure CX (W : World) (C : Cfg) (A2 : Option Addr) (c2 : Nat) (A3 : Option Addr) (c3 : Nat) (A4 : Option Addr) (c4 : Nat) : Prop where
  w : Kd.C k46 W A2 C.ws.length C.ws
  wl : C.ws.length ≤ c2
  k : Kd.C k57 W A3 C.ks.length C.ks
  kl : C.ks.length ≤ c3
  a : Kd.C (Kd.int .i64) W A4 C.ac.length C.ac
  al : C.ac.length ≤ c4
theorem CX.below {W W' : World} {C : Cfg} {A2 A3 A4 : Option Addr} {c2 c3 c4 : Nat} (h : CX W C A2 c2 A3 c3 A4 c4) (hb : Below W.heap.size W W') : CX W' C A2 c2 A3 c3 A4 c4 :=
  ⟨Kd.C_below h.w hb, h.wl, Kd.C_below h.k hb, h.kl, Kd.C_below h.a hb, h.al⟩
end Go.Proofs.YtdebbanloopcgaaDoor.Cf

/- Layer 4 (config): slices.IndexFunc with config's own test of a channel; lists. -/
set_option linter.unusedVariables false
set_option linter.unusedSimpArgs false
namespace Go.Proofs.YtdebbanloopcgaaDoor.Cf
open Go.RowKit Go.Proofs.YtdebbanloopcgaaDoorW.PrintWords Go.Proofs.YtdebbanloopcgaaDoorW.PrintLast Go.Proofs.YtdebbanloopcgaaDoorW.PrintMore Go.Proofs.YtdebbanloopcgaaDoor.Cz Go.Proofs.YtdebbanloopcgaaDoor.PTableWrites
attribute [local go_sem] max2_int min2_int max_two min_two max_three min_three max_four min_four Tryd.underlying26 Tryd.underlying57 Tryd.underlying46
def rB (p : Int) (x : S57) : Bool := rightB p x.f0 x.f1 x.f2 x.f3 x.f4 x.f5 x.f6 x.f7 x.f8 x.f9 x.f10
theorem idxK_any {p f : Int} {v2 v3 v4 : Value} {g : Nat} {A : Option Addr} {c : Nat} {xs : List S57} {w : World} (h : Kd.C k57 w A xs.length xs) (hl : xs.length ≤ 1000000) (hg : w.heap[g]? = some (.cells #[.int .i64 p, .int .i64 f, v2, v3, v4] 26 (0, 0))) :
    Calls Tryd.prog 62 #[.slice A xs.length c, .func (.func 63) #[] #[.pointer (some ⟨g, 0, none⟩)]] w fun e w' => e = .returned (.int .i64 (findI (fun x => !rB p x) xs 0)) ∧ Below w.heap.size w w' := by
  have H := Aside0.mk h
  have HG := Aside0.mk hg
  clear h hg
  go_enter Tryd.func62, Tryd.ntmps62
  go_wp2
  go_loopw [8] (fun v8 wr => ∃ j : Nat, j ≤ xs.length ∧ v8 = .int .i64 j ∧ Aside0 (Below w.heap.size w wr) ∧ Aside0 (findI (fun x => !rB p x) xs 0 = findI (fun x => !rB p x) (xs.drop j) j)) (fun v8 _ => xs.length - (intOf v8).toNat)
  case atStart => exact ⟨0, by omega, rfl, ⟨Below.refl _ _⟩, ⟨rfl⟩⟩
  case round =>
    obtain ⟨j, hj, rfl, HB, HF⟩ := hrel
    by_cases hlt : j < xs.length
    · have hst := findI_step (fun x => !rB p x) xs j hlt
      have hx : rd_T57 xs (j : Int) = xs[j] := by simp [rd_T57, hlt]
      have hcs := at_T57 (Kd.C_below H.out HB.out) (j : Int) (by omega) (by omega)
      rw [hx] at hcs
      rw [← HF.out] at hst
      have HS := Aside0.mk hst
      clear hst HF hx
      have HT : Aside0 (∀ x : S57, Calls Tryd.prog 63 #[.agg #[.int .i64 x.f0, .int .i64 x.f1, .int .i64 x.f2, .int .i64 x.f3, .int .i64 x.f4, .int .i64 x.f5, .int .i64 x.f6, .int .i64 x.f7, .int .i64 x.f8, .int .i64 x.f9, .int .i64 x.f10], .pointer (some ⟨g, 0, none⟩)] wr fun e w' => e = .returned (.bool (!rB p x)) ∧ Below wr.heap.size wr w') := ⟨fun x => rtest_any x.f0 x.f1 x.f2 x.f3 x.f4 x.f5 x.f6 x.f7 x.f8 x.f9 x.f10 (blk_below HG.out HB.out)⟩
      generalize xs[j] = x at hcs HS
      obtain ⟨ad, rfl, e0, e1, e2, e3, e4, e5, e6, e7, e8, e9, e10⟩ := hcs
      have hj0 : 0 ≤ (j : Int) := by omega
      have hj1 : (j : Int) < xs.length := by omega
      have hjt : (j : Int).toNat = j := Int.toNat_natCast j
      rw [hjt] at e0 e1 e2 e3 e4 e5 e6 e7 e8 e9 e10
      clear hjt
      cases hq : rB p x
      · go_wp2_with (first | (go_at_call 63; refine (HT.out x).mono ?_; rintro e w2 ⟨rfl, hb⟩))
        go_ret
        refine ⟨?_, below_step HB.out hb⟩
        rw [HS.out]
        simp [hq]
      · go_wp2_with (first | (go_at_call 63; refine (HT.out x).mono ?_; rintro e w2 ⟨rfl, hb⟩; have HB2 := Aside0.mk (below_step HB.out hb); clear hb))
        go_roundw
        case rel => exact ⟨j + 1, by omega, by go_num, HB2, ⟨by rw [HS.out]; simp [hq]⟩⟩
        case measure => simp [intOf]; omega
    · have hd : decide ((j : Int) < (xs.length : Int)) = false := decide_eq_false (by omega)
      have hdn : decide (j < xs.length) = false := decide_eq_false hlt
      obtain rfl : j = xs.length := by omega
      rw [List.drop_length] at HF
      go_wp2
      go_ret
      exact ⟨by rw [HF.out]; rfl, HB.out⟩
end Go.Proofs.YtdebbanloopcgaaDoor.Cf

/- Layer 4 (config): lists. -/
set_option linter.unusedVariables false
set_option linter.unusedSimpArgs false
namespace Go.Proofs.YtdebbanloopcgaaDoor.Cf
open Go.RowKit Go.Proofs.YtdebbanloopcgaaDoorW.PrintWords Go.Proofs.YtdebbanloopcgaaDoorW.PrintLast Go.Proofs.YtdebbanloopcgaaDoorW.PrintMore Go.Proofs.YtdebbanloopcgaaDoor.Cz Go.Proofs.YtdebbanloopcgaaDoor.PTableWrites
attribute [local go_sem] max2_int min2_int max_two min_two max_three min_three max_four min_four Tryd.underlying26 Tryd.underlying57 Tryd.underlying46
def badW (p f en : Int) (x : S46) : Bool := !btw x.f0 (-1) (p - 1) || (decide (x.f2 < 1) || (decide (f < x.f2) || (decide (x.f1 < en) || decide (f - x.f2 < x.f1))))
def scanW (p f : Int) : Int → Nat → List S46 → Option Nat
  | _, _, [] => none
  | en, i, x :: t => if badW p f en x then some i else scanW p f (x.f1 + x.f2) (i + 1) t
theorem scanW_step (p f en : Int) (xs : List S46) (j : Nat) (h : j < xs.length) : scanW p f en j (xs.drop j) = if badW p f en xs[j] then some j else scanW p f (xs[j].f1 + xs[j].f2) (j + 1) (xs.drop (j + 1)) := by
  rw [List.drop_eq_getElem_cons h]
  rfl
def ls (C : Cfg) : Option (Int × Int) := match scanW C.p C.f 0 0 C.ws with
  | some i => some (3, i)
  | none => if 6 < C.ks.length then some (4, -1) else if 0 ≤ findI (fun x => !rB C.p x) C.ks 0 then some (4, findI (fun x => !rB C.p x) C.ks 0) else if (C.ac.length : Int) ≠ C.p then some (5, -1) else if 0 ≤ findI (fun n => !btw n 0 2) C.ac 0 then some (5, findI (fun n => !btw n 0 2) C.ac 0) else none
set_option maxHeartbeats 8000000 in
theorem lists_any {C : Cfg} {A2 A3 A4 : Option Addr} {c2 c3 c4 : Nat} {w : World} (h : CX w C A2 c2 A3 c3 A4 c4) (hp : 1 ≤ C.p ∧ C.p ≤ 4) (hf : 1 ≤ C.f ∧ C.f ≤ 64) (hk : C.ks.length ≤ 1000) (ha : C.ac.length ≤ 1000) (hw : C.ws.length ≤ 1000) :
    Calls Tryd.prog 44 #[.agg #[.int .i64 C.p, .int .i64 C.f, .slice A2 C.ws.length c2, .slice A3 C.ks.length c3, .slice A4 C.ac.length c4]] w fun e w' => Fres w w' (ls C) e := by
  obtain ⟨res, hres⟩ : ∃ res, ls C = res := ⟨_, rfl⟩
  rw [hres]
  obtain ⟨p, f, ws, ks, ac⟩ := C
  have HRES := Aside0.mk hres
  have HXw := Aside0.mk (show Kd.C k46 w A2 ws.length ws from h.w)
  have HXk := Aside0.mk (show Kd.C k57 w A3 ks.length ks from h.k)
  have HXa := Aside0.mk (show Kd.C (Kd.int .i64) w A4 ac.length ac from h.a)
  clear hres
  simp only [] at hp hf hk ha hw ⊢
  have HP := Aside0.mk hp
  have HF := Aside0.mk hf
  obtain ⟨p1, p4⟩ := hp
  obtain ⟨f1, f64⟩ := hf
  have hmf : ∀ (fn : Fn) (first cap : Array Value) (w : World), (Instr.makeFunc fn first cap).run Tryd.prog w = .ok (.func fn first cap) w := fun _ _ _ _ => rfl
  have HMF := Aside0.mk hmf
  clear h hmf
  have b1 : (w.alloc (.cells #[.int .i64 p, .int .i64 f, .slice A2 ws.length c2, .slice A3 ks.length c3, .slice A4 ac.length c4] 26)).heap[w.heap.size]? = some (.cells #[.int .i64 p, .int .i64 f, .slice A2 ws.length c2, .slice A3 ks.length c3, .slice A4 ac.length c4] 26 (0, 0)) := blk_new _ _
  have B1 := Aside0.mk (And.intro b1 (below_alloc (Below.refl w.heap.size w) (.cells #[.int .i64 p, .int .i64 f, .slice A2 ws.length c2, .slice A3 ks.length c3, .slice A4 ac.length c4] 26)))
  clear b1
  go_enter Tryd.func44, Tryd.ntmps44
  go_wp2
  go_loopw [3, 11] (fun v3 v11 wr => ∃ (j : Nat) (en : Int), j ≤ ws.length ∧ v3 = .int .i64 en ∧ v11 = .int .i64 j ∧ Aside0 (0 ≤ en ∧ en ≤ f ∧ scanW p f 0 0 ws = scanW p f en j (ws.drop j)) ∧ Aside0 (wr.heap[w.heap.size]? = some (.cells #[.int .i64 p, .int .i64 f, .slice A2 ws.length c2, .slice A3 ks.length c3, .slice A4 ac.length c4] 26 (0, 0)) ∧ Below w.heap.size w wr)) (fun _ v11 _ => ws.length - (intOf v11).toNat)
  case atStart => exact ⟨0, 0, by omega, rfl, rfl, ⟨by omega, by omega, rfl⟩, B1⟩
  case round =>
    obtain ⟨j, en, hj, rfl, rfl, HS, HW⟩ := hrel
    clear B1
    by_cases hlt : j < ws.length
    · have hst := scanW_step p f en ws j hlt
      have hx : rd_T46 ws (j : Int) = ws[j] := by simp [rd_T46, hlt]
      have hcs := at_T46 (Kd.C_below HXw.out HW.out.2) (j : Int) (by omega) (by omega)
      rw [hx] at hcs
      rw [← HS.out.2.2] at hst
      have HT := Aside0.mk hst
      clear hst hx
      generalize ws[j] = x at hcs HT
      obtain ⟨x0, x1, x2⟩ := x
      obtain ⟨ad, rfl, e0, e1, e2⟩ := hcs
      have hjt : (j : Int).toNat = j := Int.toNat_natCast j
      rw [hjt] at e0 e1 e2
      clear hjt
      simp only [] at e0 e1 e2 HT
      have hj0 : 0 ≤ (j : Int) := by omega
      have hj1 : (j : Int) < ws.length := by omega
      have hen := HS.out.1
      have hen2 := HS.out.2.1
      have hbb := blk_alloc HW.out.1 (.cells #[.int .i64 x0, .int .i64 x1, .int .i64 x2] 46)
      have d0 : (wr.alloc (.cells #[.int .i64 x0, .int .i64 x1, .int .i64 x2] 46)).cell? ⟨w.heap.size, 0, none⟩ = some (.int .i64 p) := (blk_cell hbb 0).trans rfl
      have d1 : (wr.alloc (.cells #[.int .i64 x0, .int .i64 x1, .int .i64 x2] 46)).cell? ⟨w.heap.size, 1, none⟩ = some (.int .i64 f) := (blk_cell hbb 1).trans rfl
      have HBB0 := Aside0.mk (And.intro hbb (below_alloc HW.out.2 (.cells #[.int .i64 x0, .int .i64 x1, .int .i64 x2] 46)))
      clear hbb
      cases b1 : (btw x0 (-1) (p - 1))
      · have hbad : badW p f en ⟨x0, x1, x2⟩ = true := by simp [badW, b1]
        have HE := Aside0.mk (show scanW p f 0 0 ws = some j by rw [HT.out, hbad]; rfl)
        clear hbad
        go_wp2_with (first | (go_at_call 60; refine (between_any _ _ _ _).mono ?_; rintro e w' ⟨rfl, rfl⟩) | (go_at_call 61; refine (amiss_any _ _ _).mono ?_; rintro e w3 ⟨g, rfl, hg, hb⟩; have HGG := Aside0.mk hg; have HBB := Aside0.mk hb; clear hg hb))
        go_ret
        rw [show res = some ((3 : Int), (j : Int)) by rw [← HRES.out]; unfold ls; simp only []; rw [HE.out]]
        exact ⟨below_step HBB0.out.2 HBB.out, g, rfl, HGG.out⟩
      · cases b2 : (decide (x2 < 1))
        · cases b3 : (decide (f < x2))
          · cases b4 : (decide (x1 < en))
            · have g2 := of_decide_eq_false b2
              have g3 := of_decide_eq_false b3
              have g4 := of_decide_eq_false b4
              cases b5 : (decide (f - x2 < x1))
              · have hgood : badW p f en ⟨x0, x1, x2⟩ = false := by simp [badW, b1, b2, b3, b4, b5]
                have g2 := of_decide_eq_false b2
                have g3 := of_decide_eq_false b3
                have g4 := of_decide_eq_false b4
                have g5 := of_decide_eq_false b5
                have HE := Aside0.mk (show scanW p f 0 0 ws = scanW p f (x1 + x2) (j + 1) (ws.drop (j + 1)) by rw [HT.out, hgood]; rfl)
                have HEN := Aside0.mk (show 0 ≤ x1 + x2 ∧ x1 + x2 ≤ f by omega)
                clear hgood
                go_wp2_with (first | (go_at_call 60; refine (between_any _ _ _ _).mono ?_; rintro e w' ⟨rfl, rfl⟩))
                go_roundw
                case rel => exact ⟨j + 1, x1 + x2, by omega, by go_num, by go_num, ⟨HEN.out.1, HEN.out.2, HE.out⟩, HBB0⟩
                case measure => simp [intOf]; omega
              · have hbad : badW p f en ⟨x0, x1, x2⟩ = true := by simp [badW, b1, b2, b3, b4, b5]
                have HE := Aside0.mk (show scanW p f 0 0 ws = some j by rw [HT.out, hbad]; rfl)
                clear hbad
                go_wp2_with (first | (go_at_call 60; refine (between_any _ _ _ _).mono ?_; rintro e w' ⟨rfl, rfl⟩) | (go_at_call 61; refine (amiss_any _ _ _).mono ?_; rintro e w3 ⟨g, rfl, hg, hb⟩; have HGG := Aside0.mk hg; have HBB := Aside0.mk hb; clear hg hb))
                go_ret
                rw [show res = some ((3 : Int), (j : Int)) by rw [← HRES.out]; unfold ls; simp only []; rw [HE.out]]
                exact ⟨below_step HBB0.out.2 HBB.out, g, rfl, HGG.out⟩
            · have hbad : badW p f en ⟨x0, x1, x2⟩ = true := by simp [badW, b1, b2, b3, b4]
              have HE := Aside0.mk (show scanW p f 0 0 ws = some j by rw [HT.out, hbad]; rfl)
              clear hbad
              go_wp2_with (first | (go_at_call 60; refine (between_any _ _ _ _).mono ?_; rintro e w' ⟨rfl, rfl⟩) | (go_at_call 61; refine (amiss_any _ _ _).mono ?_; rintro e w3 ⟨g, rfl, hg, hb⟩; have HGG := Aside0.mk hg; have HBB := Aside0.mk hb; clear hg hb))
              go_ret
              rw [show res = some ((3 : Int), (j : Int)) by rw [← HRES.out]; unfold ls; simp only []; rw [HE.out]]
              exact ⟨below_step HBB0.out.2 HBB.out, g, rfl, HGG.out⟩
          · have hbad : badW p f en ⟨x0, x1, x2⟩ = true := by simp [badW, b1, b2, b3]
            have HE := Aside0.mk (show scanW p f 0 0 ws = some j by rw [HT.out, hbad]; rfl)
            clear hbad
            go_wp2_with (first | (go_at_call 60; refine (between_any _ _ _ _).mono ?_; rintro e w' ⟨rfl, rfl⟩) | (go_at_call 61; refine (amiss_any _ _ _).mono ?_; rintro e w3 ⟨g, rfl, hg, hb⟩; have HGG := Aside0.mk hg; have HBB := Aside0.mk hb; clear hg hb))
            go_ret
            rw [show res = some ((3 : Int), (j : Int)) by rw [← HRES.out]; unfold ls; simp only []; rw [HE.out]]
            exact ⟨below_step HBB0.out.2 HBB.out, g, rfl, HGG.out⟩
        · have hbad : badW p f en ⟨x0, x1, x2⟩ = true := by simp [badW, b1, b2]
          have HE := Aside0.mk (show scanW p f 0 0 ws = some j by rw [HT.out, hbad]; rfl)
          clear hbad
          go_wp2_with (first | (go_at_call 60; refine (between_any _ _ _ _).mono ?_; rintro e w' ⟨rfl, rfl⟩) | (go_at_call 61; refine (amiss_any _ _ _).mono ?_; rintro e w3 ⟨g, rfl, hg, hb⟩; have HGG := Aside0.mk hg; have HBB := Aside0.mk hb; clear hg hb))
          go_ret
          rw [show res = some ((3 : Int), (j : Int)) by rw [← HRES.out]; unfold ls; simp only []; rw [HE.out]]
          exact ⟨below_step HBB0.out.2 HBB.out, g, rfl, HGG.out⟩
    · have hd : decide ((j : Int) < (ws.length : Int)) = false := decide_eq_false (by omega)
      have hdn : decide (j < ws.length) = false := decide_eq_false hlt
      obtain rfl : j = ws.length := by omega
      have hsc := HS.out.2.2
      rw [List.drop_length] at hsc
      have hres : (if 6 < ks.length then some ((4 : Int), (-1 : Int)) else if 0 ≤ findI (fun x => !rB p x) ks 0 then some (4, findI (fun x => !rB p x) ks 0) else if (ac.length : Int) ≠ p then some (5, -1) else if 0 ≤ findI (fun n => !btw n 0 2) ac 0 then some (5, findI (fun n => !btw n 0 2) ac 0) else none) = res := by
        rw [← HRES.out]
        unfold ls
        simp only []
        rw [show scanW p f 0 0 ws = none from hsc]
      clear HRES
      clear hsc HS hlt
      have d0 : wr.cell? ⟨w.heap.size, 0, none⟩ = some (.int .i64 p) := (blk_cell HW.out.1 0).trans rfl
      have d3 : wr.cell? ⟨w.heap.size, 3, none⟩ = some (.slice A3 ks.length c3) := (blk_cell HW.out.1 3).trans rfl
      have d4 : wr.cell? ⟨w.heap.size, 4, none⟩ = some (.slice A4 ac.length c4) := (blk_cell HW.out.1 4).trans rfl
      have hmf := HMF.out
      by_cases h6 : 6 < ks.length
      · have t1 : decide (6 < (ks.length : Int)) = true := decide_eq_true (by omega)
        have t1n : decide (6 < ks.length) = true := decide_eq_true h6
        rw [if_pos h6] at hres
        subst hres
        go_wp2_with (first | (go_at_call 61; refine (amiss_any _ _ _).mono ?_; rintro e w3 ⟨g, rfl, hg, hb⟩; have HGG := Aside0.mk hg; have HBB := Aside0.mk hb; clear hg hb))
        go_ret
        exact ⟨below_step HW.out.2 HBB.out, g, rfl, HGG.out⟩
      · have t1 : decide (6 < (ks.length : Int)) = false := decide_eq_false (by omega)
        have t1n : decide (6 < ks.length) = false := decide_eq_false h6
        rw [if_neg h6] at hres
        have HK := Aside0.mk (idxK_any (c := c3) (Kd.C_below HXk.out HW.out.2) (by omega) HW.out.1)
        clear h6
        generalize findI (fun x => !rB p x) ks 0 = rk at HK hres
        by_cases hrk : 0 ≤ rk
        · have t2 : decide (0 ≤ rk) = true := decide_eq_true hrk
          rw [if_pos hrk] at hres
          subst hres
          go_wp2_with (first | (go_at_call 62; refine HK.out.mono ?_; clear HK; rintro e w2 ⟨rfl, hb⟩; have HB2 := Aside0.mk (below_step HW.out.2 hb); have b2 := Aside0.mk (blk_below HW.out.1 hb); have d0 : w2.cell? ⟨w.heap.size, 0, none⟩ = some (.int .i64 p) := (blk_cell b2.out 0).trans rfl; have d4 : w2.cell? ⟨w.heap.size, 4, none⟩ = some (.slice A4 ac.length c4) := (blk_cell b2.out 4).trans rfl; have HA2 := Aside0.mk (idxA_any (w := w2) (c := c4) (Kd.C_below (Kd.C_below HXa.out HW.out.2) hb) (by omega)); clear hb) | (go_at_call 61; refine (amiss_any _ _ _).mono ?_; rintro e w3 ⟨g, rfl, hg, hb⟩; have HGG := Aside0.mk hg; have HBB := Aside0.mk hb; clear hg hb))
          go_ret
          exact ⟨below_step HB2.out HBB.out, g, rfl, HGG.out⟩
        · have t2 : decide (0 ≤ rk) = false := decide_eq_false hrk
          rw [if_neg hrk] at hres
          by_cases hac : (ac.length : Int) = p
          · have t3 : ((ac.length : Int) != p) = false := bne_eq_false_iff_eq.mpr hac
            rw [if_neg (fun h => h hac)] at hres
            have HAX : ∃ ra, findI (fun n => !btw n 0 2) ac 0 = ra := ⟨_, rfl⟩
            obtain ⟨ra, hra⟩ := HAX
            have HRA := Aside0.mk hra
            rw [hra] at hres
            clear hra hac
            by_cases hra : 0 ≤ ra
            · have t4 : decide (0 ≤ ra) = true := decide_eq_true hra
              rw [if_pos hra] at hres
              subst hres
              go_wp2_with (first | (go_at_call 62; refine HK.out.mono ?_; clear HK; rintro e w2 ⟨rfl, hb⟩; have HB2 := Aside0.mk (below_step HW.out.2 hb); have b2 := Aside0.mk (blk_below HW.out.1 hb); have d0 : w2.cell? ⟨w.heap.size, 0, none⟩ = some (.int .i64 p) := (blk_cell b2.out 0).trans rfl; have d4 : w2.cell? ⟨w.heap.size, 4, none⟩ = some (.slice A4 ac.length c4) := (blk_cell b2.out 4).trans rfl; have HA2 := Aside0.mk (idxA_any (w := w2) (c := c4) (Kd.C_below (Kd.C_below HXa.out HW.out.2) hb) (by omega)); clear hb) | (go_at_call 65; have HA3 := HA2.out; rw [HRA.out] at HA3; refine HA3.mono ?_; clear HA2 HA3; rintro e w' ⟨rfl, rfl⟩) | (go_at_call 61; refine (amiss_any _ _ _).mono ?_; rintro e w3 ⟨g, rfl, hg, hb⟩; have HGG := Aside0.mk hg; have HBB := Aside0.mk hb; clear hg hb))
              go_ret
              exact ⟨below_step HB2.out HBB.out, g, rfl, HGG.out⟩
            · have t4 : decide (0 ≤ ra) = false := decide_eq_false hra
              rw [if_neg hra] at hres
              subst hres
              go_wp2_with (first | (go_at_call 62; refine HK.out.mono ?_; clear HK; rintro e w2 ⟨rfl, hb⟩; have HB2 := Aside0.mk (below_step HW.out.2 hb); have b2 := Aside0.mk (blk_below HW.out.1 hb); have d0 : w2.cell? ⟨w.heap.size, 0, none⟩ = some (.int .i64 p) := (blk_cell b2.out 0).trans rfl; have d4 : w2.cell? ⟨w.heap.size, 4, none⟩ = some (.slice A4 ac.length c4) := (blk_cell b2.out 4).trans rfl; have HA2 := Aside0.mk (idxA_any (w := w2) (c := c4) (Kd.C_below (Kd.C_below HXa.out HW.out.2) hb) (by omega)); clear hb) | (go_at_call 65; have HA3 := HA2.out; rw [HRA.out] at HA3; refine HA3.mono ?_; clear HA2 HA3; rintro e w' ⟨rfl, rfl⟩) | (go_at_call 61; refine (amiss_any _ _ _).mono ?_; rintro e w3 ⟨g, rfl, hg, hb⟩; have HGG := Aside0.mk hg; have HBB := Aside0.mk hb; clear hg hb))
              go_ret
              exact ⟨HB2.out, rfl⟩
          · have t3 : ((ac.length : Int) != p) = true := bne_iff_ne.mpr hac
            rw [if_pos hac] at hres
            subst hres
            go_wp2_with (first | (go_at_call 62; refine HK.out.mono ?_; clear HK; rintro e w2 ⟨rfl, hb⟩; have HB2 := Aside0.mk (below_step HW.out.2 hb); have b2 := Aside0.mk (blk_below HW.out.1 hb); have d0 : w2.cell? ⟨w.heap.size, 0, none⟩ = some (.int .i64 p) := (blk_cell b2.out 0).trans rfl; have d4 : w2.cell? ⟨w.heap.size, 4, none⟩ = some (.slice A4 ac.length c4) := (blk_cell b2.out 4).trans rfl; have HA2 := Aside0.mk (idxA_any (w := w2) (c := c4) (Kd.C_below (Kd.C_below HXa.out HW.out.2) hb) (by omega)); clear hb) | (go_at_call 61; refine (amiss_any _ _ _).mono ?_; rintro e w3 ⟨g, rfl, hg, hb⟩; have HGG := Aside0.mk hg; have HBB := Aside0.mk hb; clear hg hb))
            go_ret
            exact ⟨below_step HB2.out HBB.out, g, rfl, HGG.out⟩
end Go.Proofs.YtdebbanloopcgaaDoor.Cf

/- Layer 4 (config): Check. -/
set_option linter.unusedVariables false
set_option linter.unusedSimpArgs false
namespace Go.Proofs.YtdebbanloopcgaaDoor.Cf
open Go.RowKit Go.Proofs.YtdebbanloopcgaaDoorW.PrintWords Go.Proofs.YtdebbanloopcgaaDoorW.PrintLast Go.Proofs.YtdebbanloopcgaaDoorW.PrintMore Go.Proofs.YtdebbanloopcgaaDoor.Cz Go.Proofs.YtdebbanloopcgaaDoor.PTableWrites
attribute [local go_sem] max2_int min2_int max_two min_two max_three min_three max_four min_four Tryd.underlying26 Tryd.underlying48 Tryd.underlying83 Tryd.underlying79
theorem below_grown {w0 W W' : World} {row : Option Nat} (h : Below w0.heap.size w0 W) (hg : W.grownBy W' row) (hne : ∀ k, row = some k → w0.heap.size ≤ k) : Below w0.heap.size w0 W' :=
  h.trans ⟨hg.os, hg.tape, hg.output, hg.size, fun k hk => hg.block k (Nat.lt_of_lt_of_le hk h.size) (fun e => by have := hne k e.symm; omega)⟩
theorem grown_set (w : World) (b i : Nat) (v : Value) : w.grownBy (w.setCell ⟨b, i, none⟩ v) (some b) :=
  ⟨rfl, rfl, rfl, by simp [World.setCell], fun k _ hk => Below.heap_setCell _ _ _ _ (fun e => hk (by rw [e]))⟩
theorem as_any {g t : Nat} {a b : Int} {w : World} (hl : LG w) (hfb : FB w g a b) (ht : w.heap[t]? = some (.cells #[.pointer none] 79 (0, 0))) :
    Calls Tryd.prog 45 #[.iface 79 (.pointer (some ⟨g, 0, none⟩)), .iface 81 (.pointer (some ⟨t, 0, none⟩))] w fun e w' => e = .returned (.bool true) ∧ w'.heap[t]? = some (.cells #[.pointer (some ⟨g, 0, none⟩)] 79 (0, 0)) ∧ FB w' g a b ∧ w.grownBy w' (some t) := by
  refine (As.as_hit ⟨g, 0, none⟩ ⟨t, 0, none⟩ (.pointer none) w hl ((blk_cell ht 0).trans rfl) (blk_frozen ht 0)).mono ?_
  rintro e w' ⟨rfl, rfl⟩
  have hne : g ≠ t := blk_ne hfb ht (by decide)
  refine ⟨rfl, ?_, ?_, ?_⟩
  · exact blk_put (blk_alloc (blk_alloc (blk_alloc (blk_alloc ht _) _) _) _) 0 _ rfl
  · exact blk_far (p := ⟨t, 0, none⟩) (blk_alloc (blk_alloc (blk_alloc (blk_alloc hfb _) _) _) _) hne _
  · have hb := below_alloc (below_alloc (below_alloc (below_alloc (Below.refl w.heap.size w) (.cells #[.pointer (some ⟨t, 0, none⟩)] 81)) (.cells #[.pointer (some ⟨1, 81, none⟩), .pointer (some ⟨w.heap.size, 0, none⟩), .int .u64 150] 116)) (.cells #[.pointer (some ⟨1, 81, none⟩), .pointer (some ⟨w.heap.size, 0, none⟩), .int .u64 150] 116)) (.cells #[.pointer (some ⟨g, 0, none⟩)] 79)
    exact World.grownBy.trans ⟨hb.os, hb.tape, hb.output, hb.size, fun k hk _ => hb.block k hk⟩ (grown_set _ t 0 _)
/-- What Check answers: part, number, error. -/
structure Ans where
  a : Int
  b : Int
  e : Int
def chk (C : Cfg) : Ans := match hd C.p C.f C.ws.length with
  | some x => ⟨x.1, x.2, 4⟩
  | none => match ls C with
    | some x => ⟨x.1, x.2, 4⟩
    | none => ⟨0, 0, 0⟩
theorem hd_none {p f n : Int} (h : hd p f n = none) : (1 ≤ p ∧ p ≤ 4) ∧ (1 ≤ f ∧ f ≤ 64) ∧ (1 ≤ n ∧ n ≤ 8) := by
  unfold hd at h
  cases h1 : btw p 1 4
  · rw [if_pos h1] at h; cases h
  · rw [if_neg (by rw [h1]; decide)] at h
    cases h2 : btw f 1 64
    · rw [if_pos h2] at h; cases h
    · rw [if_neg (by rw [h2]; decide)] at h
      cases h3 : btw n 1 8
      · rw [if_pos h3] at h; cases h
      · exact ⟨btw_true h1, btw_true h2, btw_true h3⟩
set_option maxHeartbeats 8000000 in
theorem check_any {C : Cfg} {A2 A3 A4 : Option Addr} {c2 c3 c4 : Nat} {w : World} (h : CX w C A2 c2 A3 c3 A4 c4) (hg : LG w) (hk : C.ks.length ≤ 1000) (ha : C.ac.length ≤ 1000) (hw : C.ws.length ≤ 1000) :
    Calls Tryd.prog 20 #[.agg #[.int .i64 C.p, .int .i64 C.f, .slice A2 C.ws.length c2, .slice A3 C.ks.length c3, .slice A4 C.ac.length c4]] w fun e w' => e = .returned (.tuple #[.agg #[.int .i64 (chk C).a, .int .i64 (chk C).b], .int .i64 (chk C).e]) ∧ Below w.heap.size w w' := by
  have HH := fun w => heads_any C.p C.f A2 A3 A4 C.ws.length C.ks.length C.ac.length c2 c3 c4 w
  have HX := Aside0.mk h
  have HG := Aside0.mk hg
  have T := Aside0.mk Tryd.underlying48
  have bb := And.intro (blk_alloc (blk_new w (.cells #[.int .i64 C.p, .int .i64 C.f, .slice A2 C.ws.length c2, .slice A3 C.ks.length c3, .slice A4 C.ac.length c4] 26)) (.cells #[.int .i64 0, .int .i64 0] 48)) (And.intro (show ((w.alloc (.cells #[.int .i64 C.p, .int .i64 C.f, .slice A2 C.ws.length c2, .slice A3 C.ks.length c3, .slice A4 C.ac.length c4] 26)).alloc (.cells #[.int .i64 0, .int .i64 0] 48)).heap[w.heap.size + 1]? = some (.cells #[.int .i64 0, .int .i64 0] 48 (0, 0)) by simpa using heap_alloc_new (w.alloc (.cells #[.int .i64 C.p, .int .i64 C.f, .slice A2 C.ws.length c2, .slice A3 C.ks.length c3, .slice A4 C.ac.length c4] 26)) (.cells #[.int .i64 0, .int .i64 0] 48)) (below_alloc (below_alloc (Below.refl w.heap.size w) (.cells #[.int .i64 C.p, .int .i64 C.f, .slice A2 C.ws.length c2, .slice A3 C.ks.length c3, .slice A4 C.ac.length c4] 26)) (.cells #[.int .i64 0, .int .i64 0] 48)))
  have BB := Aside0.mk bb
  clear bb h hg
  have BC := Aside0.mk BB.out.1
  have BR := Aside0.mk BB.out.2.1
  have BL := Aside0.mk BB.out.2.2
  clear BB
  unfold chk
  cases h1 : hd C.p C.f C.ws.length with
  | some x =>
    simp only []
    rw [h1] at HH
    replace HH := Aside0.mk HH
    go_enter Tryd.func20, Tryd.ntmps20
    go_wp2_with (first | (go_at_call 43; refine (HH.out _).mono ?_; rintro e w2 ⟨hb, g, rfl, hg⟩; have hr := blk_below BR.out hb; have HA := Aside0.mk (as_any (t := w2.heap.size) (HG.out.below (below_alloc (below_step BL.out hb) (.cells #[.pointer none] 79))) (blk_alloc hg (.cells #[.pointer none] 79)) (blk_new w2 (.cells #[.pointer none] 79))); have HR3 := Aside0.mk (blk_alloc hr (.cells #[.pointer none] 79)); have HL3 := Aside0.mk (And.intro (below_alloc (below_step BL.out hb) (.cells #[.pointer none] 79)) (below_step BL.out hb).size); clear hb hg hr) | (go_at_call 45; refine HA.out.mono ?_; clear HA; rintro e w5 ⟨rfl, h5, hf5, hg5⟩; have y0 : w5.cell? ⟨w2.heap.size, 0, none⟩ = some (.pointer (some ⟨g, 0, none⟩)) := (blk_cell h5 0).trans rfl; have f0 : w5.cell? ⟨g, 0, none⟩ = some (.int .i64 x.1) := (blk_cell hf5 0).trans rfl; have f1 : w5.cell? ⟨g, 1, none⟩ = some (.int .i64 x.2) := (blk_cell hf5 1).trans rfl; have hr5 := blk_grown HR3.out hg5 (fun e => blk_ne HR3.out (blk_new w2 (.cells #[.pointer none] 79)) (by decide) (Option.some.inj e)); have r0 : w5.cell? ⟨w.heap.size + 1, 0, none⟩ = some (.int .i64 0) := (blk_cell hr5 0).trans rfl; have r1 : w5.cell? ⟨w.heap.size + 1, 1, none⟩ = some (.int .i64 0) := (blk_cell hr5 1).trans rfl; have q0 := blk_frozen hr5 0; have q1 := blk_frozen hr5 1; have HR5 := Aside0.mk hr5; have HL5 := Aside0.mk (below_grown HL3.out.1 hg5 (fun k hk => by cases hk; exact HL3.out.2)); clear h5 hf5 hg5 hr5))
    refine bodyPost_ret (results_ct rfl _ _ (w.heap.size + 1) 48 #[.int .i64 x.1, .int .i64 x.2] (0, 0) _ rfl ?hheap T.out rfl (by kernel_rfl)) rfl ?_
    case hheap => exact blk_put (blk_put HR5.out 0 _ rfl) 1 _ rfl
    exact ⟨rfl, below_set (below_set HL5.out (by simp)) (by simp)⟩
  | none =>
    rw [h1] at HH
    replace HH := Aside0.mk HH
    obtain ⟨hp, hf, hn⟩ := hd_none h1
    have HL := fun w1 (hb : Below w.heap.size w w1) => lists_any (HX.out.below hb) hp hf hk ha hw
    cases h2 : ls C with
    | some x =>
      simp only []
      rw [h2] at HL
      replace HL := Aside0.mk HL
      clear hp hf hn hk ha hw
      go_enter Tryd.func20, Tryd.ntmps20
      go_wp2_with (first | (go_at_call 43; refine (HH.out _).mono ?_; rintro e w2 ⟨hb, rfl⟩; have hc := blk_below BC.out hb; have z0 := (blk_cell hc 0).trans rfl; have z1 := (blk_cell hc 1).trans rfl; have z2 := (blk_cell hc 2).trans rfl; have z3 := (blk_cell hc 3).trans rfl; have z4 := (blk_cell hc 4).trans rfl; have BC := Aside0.mk hc; have BR := Aside0.mk (blk_below BR.out hb); have BL := Aside0.mk (below_step BL.out hb); clear hb hc) | (go_at_call 44; refine (HL.out _ BL.out).mono ?_; rintro e w3 ⟨hb, g, rfl, hg⟩; have hr := blk_below BR.out hb; have HA := Aside0.mk (as_any (t := w3.heap.size) (HG.out.below (below_alloc (below_step BL.out hb) (.cells #[.pointer none] 79))) (blk_alloc hg (.cells #[.pointer none] 79)) (blk_new w3 (.cells #[.pointer none] 79))); have HR3 := Aside0.mk (blk_alloc hr (.cells #[.pointer none] 79)); have HL3 := Aside0.mk (And.intro (below_alloc (below_step BL.out hb) (.cells #[.pointer none] 79)) (below_step BL.out hb).size); clear hb hg hr) | (go_at_call 45; refine HA.out.mono ?_; clear HA; rintro e w5 ⟨rfl, h5, hf5, hg5⟩; have y0 : w5.cell? ⟨w3.heap.size, 0, none⟩ = some (.pointer (some ⟨g, 0, none⟩)) := (blk_cell h5 0).trans rfl; have f0 : w5.cell? ⟨g, 0, none⟩ = some (.int .i64 x.1) := (blk_cell hf5 0).trans rfl; have f1 : w5.cell? ⟨g, 1, none⟩ = some (.int .i64 x.2) := (blk_cell hf5 1).trans rfl; have hr5 := blk_grown HR3.out hg5 (fun e => blk_ne HR3.out (blk_new w3 (.cells #[.pointer none] 79)) (by decide) (Option.some.inj e)); have r0 : w5.cell? ⟨w.heap.size + 1, 0, none⟩ = some (.int .i64 0) := (blk_cell hr5 0).trans rfl; have r1 : w5.cell? ⟨w.heap.size + 1, 1, none⟩ = some (.int .i64 0) := (blk_cell hr5 1).trans rfl; have q0 := blk_frozen hr5 0; have q1 := blk_frozen hr5 1; have HR5 := Aside0.mk hr5; have HL5 := Aside0.mk (below_grown HL3.out.1 hg5 (fun k hk => by cases hk; exact HL3.out.2)); clear h5 hf5 hg5 hr5))
      refine bodyPost_ret (results_ct rfl _ _ (w.heap.size + 1) 48 #[.int .i64 x.1, .int .i64 x.2] (0, 0) _ rfl ?hheap2 T.out rfl (by kernel_rfl)) rfl ?_
      case hheap2 => exact blk_put (blk_put HR5.out 0 _ rfl) 1 _ rfl
      exact ⟨rfl, below_set (below_set HL5.out (by simp)) (by simp)⟩
    | none =>
      simp only []
      rw [h2] at HL
      replace HL := Aside0.mk HL
      clear hp hf hn hk ha hw
      go_enter Tryd.func20, Tryd.ntmps20
      go_wp2_with (first | (go_at_call 43; refine (HH.out _).mono ?_; rintro e w2 ⟨hb, rfl⟩; have hc := blk_below BC.out hb; have z0 := (blk_cell hc 0).trans rfl; have z1 := (blk_cell hc 1).trans rfl; have z2 := (blk_cell hc 2).trans rfl; have z3 := (blk_cell hc 3).trans rfl; have z4 := (blk_cell hc 4).trans rfl; have BC := Aside0.mk hc; have BR := Aside0.mk (blk_below BR.out hb); have BL := Aside0.mk (below_step BL.out hb); clear hb hc) | (go_at_call 44; refine (HL.out _ BL.out).mono ?_; rintro e w3 ⟨hb, rfl⟩; have hc := blk_below BC.out hb; have z0 := (blk_cell hc 0).trans rfl; have z1 := (blk_cell hc 1).trans rfl; have z2 := (blk_cell hc 2).trans rfl; have z3 := (blk_cell hc 3).trans rfl; have z4 := (blk_cell hc 4).trans rfl; have BC := Aside0.mk hc; have BR := Aside0.mk (blk_below BR.out hb); have BL := Aside0.mk (below_step BL.out hb); clear hb hc) | (go_at_call 45; refine (As.as_nil _ _).mono ?_; rintro e w5 ⟨rfl, rfl⟩; have hr5 := blk_alloc BR.out (.cells #[.pointer none] 79); have r0 : (w3.alloc (.cells #[.pointer none] 79)).cell? ⟨w.heap.size + 1, 0, none⟩ = some (.int .i64 0) := (blk_cell hr5 0).trans rfl; have r1 : (w3.alloc (.cells #[.pointer none] 79)).cell? ⟨w.heap.size + 1, 1, none⟩ = some (.int .i64 0) := (blk_cell hr5 1).trans rfl; have q0 := blk_frozen hr5 0; have q1 := blk_frozen hr5 1; have HFIN := Aside0.mk (blk_put (blk_put hr5 0 (.int .i64 0) rfl) 1 (.int .i64 0) rfl); have HFB := Aside0.mk (below_set (g := w.heap.size + 1) (j := 1) (v := .int .i64 0) (below_set (g := w.heap.size + 1) (j := 0) (v := .int .i64 0) (below_alloc BL.out (.cells #[.pointer none] 79)) (by omega)) (by omega)); clear hr5))
      refine bodyPost_ret (results_ct rfl _ _ (w.heap.size + 1) 48 #[.int .i64 0, .int .i64 0] (0, 0) _ rfl ?hheap3 T.out rfl (by kernel_rfl)) rfl ?_
      case hheap3 => exact HFIN.out
      exact ⟨rfl, HFB.out⟩
end Go.Proofs.YtdebbanloopcgaaDoor.Cf
