/- WirePuts: the bytes of any number, sums and seals are what the document says. -/
import Derived.Test.YtjgianmcllkagaaWiOpens
import Derived.Deep.RegionHeld
set_option linter.unusedVariables false
set_option linter.unusedSimpArgs false
namespace Go.Proofs.Ytjgianmcllkagaa.Wi
open Go.RowKit Go.Proofs.YtjgianmcllkagaaW.PrintWords Go.Proofs.YtjgianmcllkagaaW.PrintLast Go.Proofs.YtjgianmcllkagaaW.PrintMore
attribute [local go_sem] max2_int min2_int max_two min_two max_three min_three max_four min_four
def putR (xs : List Int) (n v : Int) : List Int := if putE n v = 0 then xs ++ putB n v else xs
theorem below_of {k : IntKind} {W : World} {A : Option Addr} {c : Nat} {xs : List Int} (_ : CI k W A c xs) : Below W.heap.size W W := Below.refl _ _
theorem put_u (n v : Int) {A : Option Addr} {c : Nat} {xs : List Int} {w : World} (hc : CI .u8 w A c xs) (hl : xs.length ≤ 900) :
    Calls Try.prog 19 #[.slice A xs.length c, .int .i64 n, .int .i64 v] w fun e w' => ∃ A' c', e = .returned (.tuple #[.slice A' (putR xs n v).length c', .int .i64 (putE n v)]) ∧ CI .u8 w' A' c' (putR xs n v) ∧ Below w.heap.size w w' := by
  by_cases h : putE n v = 0
  · rw [show putR xs n v = xs ++ putB n v by unfold putR; rw [if_pos h], h]
    refine (put_ok h hc hl).mono ?_
    rintro e w' ⟨r, rfl, ho⟩
    obtain ⟨A1, c1, rfl, h1⟩ := ho.reads
    exact ⟨A1, c1, rfl, h1, ho.bel⟩
  · rw [show putR xs n v = xs by unfold putR; rw [if_neg h]]
    refine (put_bad h _ _ _ _).mono ?_
    rintro e w' ⟨rfl, rfl⟩
    exact ⟨A, c, rfl, hc, Below.refl _ _⟩
theorem rPut_u (n v : Int) {A : Option Addr} {c : Nat} {xs : List Int} {w : World} (hc : CI .u8 w A c xs) (hl : xs.length ≤ 900) :
    Calls Try.prog 20 #[.slice A xs.length c, .int .i64 n, .int .i64 v] w fun e w' => ∃ A' c', e = .returned (.tuple #[.slice A' (putR xs n v).length c', .int .i64 (putE n v)]) ∧ CI .u8 w' A' c' (putR xs n v) ∧ Below w.heap.size w w' := by
  by_cases h : putE n v = 0
  · rw [show putR xs n v = xs ++ putB n v by unfold putR; rw [if_pos h], h]
    refine (rPut_ok h hc hl).mono ?_
    rintro e w' ⟨r, rfl, ho⟩
    obtain ⟨A1, c1, rfl, h1⟩ := ho.reads
    exact ⟨A1, c1, rfl, h1, ho.bel⟩
  · rw [show putR xs n v = xs by unfold putR; rw [if_neg h]]
    refine (rPut_bad h _ _ _ _).mono ?_
    rintro e w' ⟨rfl, rfl⟩
    exact ⟨A, c, rfl, hc, Below.refl _ _⟩
theorem seal_u {A : Option Addr} {c : Nat} {xs : List Int} {w : World} (hc : CI .u8 w A c xs) (hf : WF xs) (hl : xs.length ≤ 900) :
    Calls Try.prog 23 #[.slice A xs.length c] w fun e w' => ∃ A' c', e = .returned (.slice A' (xs ++ putB 2 (sumB xs)).length c') ∧ CI .u8 w' A' c' (xs ++ putB 2 (sumB xs)) ∧ Below w.heap.size w w' := by
  refine (seal_any hc hf hl).mono ?_
  rintro e w' ⟨r, rfl, ho⟩
  obtain ⟨A1, c1, rfl, h1⟩ := ho.reads
  exact ⟨A1, c1, rfl, h1, ho.bel⟩
theorem rSeal_u {A : Option Addr} {c : Nat} {xs : List Int} {w : World} (hc : CI .u8 w A c xs) (hf : WF xs) (hl : xs.length ≤ 900) :
    Calls Try.prog 24 #[.slice A xs.length c] w fun e w' => ∃ A' c', e = .returned (.slice A' (xs ++ putB 2 (sumB xs)).length c') ∧ CI .u8 w' A' c' (xs ++ putB 2 (sumB xs)) ∧ Below w.heap.size w w' := by
  refine (rSeal_any hc hf hl).mono ?_
  rintro e w' ⟨r, rfl, ho⟩
  obtain ⟨A1, c1, rfl, h1⟩ := ho.reads
  exact ⟨A1, c1, rfl, h1, ho.bel⟩
set_option maxHeartbeats 8000000 in
theorem wirePuts_any (A : Option Addr) (m c : Nat) (xs : List Int) (hn : m = xs.length) (hl : xs.length ≤ maxLen) (n v : Int) (w : World) (h : CI .u8 w A c xs) (hf : WF xs) :
    Calls Try.prog 6 #[.slice A m c, .int .i64 n, .int .i64 v] w fun e w' => e = .returned (.bool true) ∧ Below w.heap.size w w' := by
  subst hn
  obtain ⟨ys, h1, h2, h3, h4⟩ := few_ci h hf hl
  have HF := Aside0.mk h4
  have HC := Aside0.mk h1
  have HW := Aside0.mk h2
  have PA := fun w (hc : CI .u8 w A c ys) => put_u n v hc (by omega)
  have RA := fun w (hc : CI .u8 w A c ys) => rPut_u n v hc (by omega)
  have PB := fun w (hc : CI .u8 w A c ys) => put_u (wd n) v hc (by omega)
  have RB := fun w (hc : CI .u8 w A c ys) => rPut_u (wd n) v hc (by omega)
  have SA := fun w (hc : CI .u8 w A c ys) => seal_u hc h2 (by omega)
  have SB := fun w (hc : CI .u8 w A c ys) => rSeal_u hc h2 (by omega)
  have QA := fun w (hc : CI .u8 w A c ys) => sum_any hc h2 (by omega)
  have QB := fun w (hc : CI .u8 w A c ys) => rSum_any hc h2 (by omega)
  have WD := wide_any n
  clear h hf hl h4 h1 h2
  revert PA RA PB RB SA SB QA QB WD
  generalize putR ys n v = xa
  generalize putE n v = ea
  generalize putR ys (wd n) v = xb
  generalize putE (wd n) v = eb
  generalize ys ++ putB 2 (sumB ys) = zs
  generalize sumB ys = sm
  generalize wd n = n2
  intro PA RA PB RB SA SB QA QB WD
  replace PA := Aside0.mk PA
  replace RA := Aside0.mk RA
  replace PB := Aside0.mk PB
  replace RB := Aside0.mk RB
  replace SA := Aside0.mk SA
  replace SB := Aside0.mk SB
  replace QA := Aside0.mk QA
  replace QB := Aside0.mk QB
  replace WD := Aside0.mk WD
  have ba : ((strOfNums xa).toList == (strOfNums xa).toList) = true := beq_self_eq_true _
  have bb : ((strOfNums xb).toList == (strOfNums xb).toList) = true := beq_self_eq_true _
  have bz : ((strOfNums zs).toList == (strOfNums zs).toList) = true := beq_self_eq_true _
  have be : (ea == ea) = true := beq_self_eq_true _
  have bf : (eb == eb) = true := beq_self_eq_true _
  have bs : (sm == sm) = true := beq_self_eq_true _
  go_enter Try.func6, Try.ntmps6
  go_upto_region 8 with (first | (go_at_call 9; refine (lives_any _).mono ?_; rintro e w1 ⟨rfl, hb⟩; have HB := Aside0.mk hb; clear hb) | (go_at_call 10; refine (HF.out _ HB.out).mono ?_; rintro e w' ⟨rfl, rfl⟩) | (go_at_call 18; refine (WD.out _).mono ?_; rintro e w' ⟨rfl, hb⟩; (try (replace HX := Aside0.mk (HX.out.below hb))); (try (replace HY := Aside0.mk (HY.out.below hb))); (try (replace HP := Aside0.mk (HP.out.below hb))); replace HB := Aside0.mk (below_step HB.out hb); clear hb) | (go_at_call 19; refine (PA.out _ (HC.out.below HB.out)).mono ?_; clear PA; rintro e w1 ⟨A1, c1, rfl, hc1, hb⟩; have HX := Aside0.mk hc1; replace HB := Aside0.mk (below_step HB.out hb); clear hb hc1) | (go_at_call 20; refine (RA.out _ (HC.out.below HB.out)).mono ?_; clear RA; rintro e w1 ⟨A2, c2, rfl, hc1, hb⟩; replace HX := Aside0.mk (HX.out.below hb); have HY := Aside0.mk hc1; replace HB := Aside0.mk (below_step HB.out hb); clear hb hc1) | (go_at_call 19; refine (PB.out _ (HC.out.below HB.out)).mono ?_; clear PB; rintro e w1 ⟨A3, c3, rfl, hc1, hb⟩; replace HX := Aside0.mk (HX.out.below hb); replace HY := Aside0.mk (HY.out.below hb); have HP := Aside0.mk hc1; replace HB := Aside0.mk (below_step HB.out hb); clear hb hc1) | (go_at_call 20; refine (RB.out _ (HC.out.below HB.out)).mono ?_; clear RB; rintro e w1 ⟨A4, c4, rfl, hc1, hb⟩; replace HX := Aside0.mk (HX.out.below hb); replace HY := Aside0.mk (HY.out.below hb); replace HP := Aside0.mk (HP.out.below hb); have HQ := Aside0.mk hc1; replace HB := Aside0.mk (below_step HB.out hb); clear hb hc1))
  replace HX := Aside0.mk HX.out.drew
  replace HY := Aside0.mk HY.out.drew
  replace HP := Aside0.mk HP.out.drew
  replace HQ := Aside0.mk HQ.out.drew
  have HZ := Aside0.mk (below_of HX.out)
  replace HB := Aside0.mk (below_drew HB.out)
  clear HF WD
  go_region_held (fun w' => (convert 22 9 (.slice A1 xa.length c1)).run Try.prog w' = .ok (.string (strOfNums xa)) w' ∧ (convert 22 9 (.slice A2 xa.length c2)).run Try.prog w' = .ok (.string (strOfNums xa)) w' ∧ (convert 22 9 (.slice A3 xb.length c3)).run Try.prog w' = .ok (.string (strOfNums xb)) w' ∧ (convert 22 9 (.slice A4 xb.length c4)).run Try.prog w' = .ok (.string (strOfNums xb)) w') (first | exact ⟨(HX.out.below HZ.out).str, (HY.out.below HZ.out).str, (HP.out.below HZ.out).str, (HQ.out.below HZ.out).str⟩) (first | (go_at_call 21; refine (QA.out _ (HC.out.below HB.out)).mono ?_; rintro e w' ⟨rfl, rfl⟩) | (go_at_call 22; refine (QB.out _ (HC.out.below HB.out)).mono ?_; rintro e w' ⟨rfl, rfl⟩) | (go_at_call 23; refine (SA.out _ (HC.out.below HB.out)).mono ?_; rintro e w1 ⟨A5, c5, rfl, hc1, hb⟩; have k5 := hc1.str; have K5 := Aside0.mk hc1; (try (have k6' := (K6.out.below hb).str)); have HB := Aside0.mk (below_step HB.out hb); have HZ := Aside0.mk (below_step HZ.out hb); clear hb hc1) | (go_at_call 24; refine (SB.out _ (HC.out.below HB.out)).mono ?_; rintro e w1 ⟨A6, c6, rfl, hc1, hb⟩; have k6 := hc1.str; have K6 := Aside0.mk hc1; (try (have k5' := (K5.out.below hb).str)); have HB := Aside0.mk (below_step HB.out hb); have HZ := Aside0.mk (below_step HZ.out hb); clear hb hc1))
  all_goals (go_wp2; go_ret; exact ⟨rfl, HB.out⟩)
end Go.Proofs.Ytjgianmcllkagaa.Wi
