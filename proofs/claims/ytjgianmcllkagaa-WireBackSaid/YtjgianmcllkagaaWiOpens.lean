/- WireOpens: what is opened of any bytes is what the document says. -/
import Derived.Test.YtjgianmcllkagaaWiOpen
set_option linter.unusedVariables false
set_option linter.unusedSimpArgs false
namespace Go.Proofs.Ytjgianmcllkagaa.Wi
open Go.RowKit Go.Proofs.YtjgianmcllkagaaW.PrintWords Go.Proofs.YtjgianmcllkagaaW.PrintLast Go.Proofs.YtjgianmcllkagaaW.PrintMore
attribute [local go_sem] max2_int min2_int max_two min_two max_three min_three max_four min_four
theorem few_ci {A : Option Addr} {c : Nat} {xs : List Int} {w : World} (h : CI .u8 w A c xs) (hf : WF xs) (hl : xs.length ≤ maxLen) :
    ∃ ys, CI .u8 w A c ys ∧ WF ys ∧ ys.length ≤ 200 ∧ ∀ w1, Below w.heap.size w w1 → Calls Try.prog 10 #[.slice A xs.length c] w1 fun e w' => e = .returned (.slice A ys.length c) ∧ w1 = w' := by
  refine ⟨xs.take (min xs.length 200), h.take (by omega), hf.take _, by rw [List.length_take]; omega, fun w1 hb => ?_⟩
  have e : (xs.take (min xs.length 200)).length = min xs.length 200 := by rw [List.length_take]; omega
  rw [e]
  exact few_any (h.below hb) hl
theorem wireOpens_any (A : Option Addr) (n c : Nat) (xs : List Int) (hn : n = xs.length) (hl : xs.length ≤ maxLen) (w : World) (h : CI .u8 w A c xs) (hf : WF xs) :
    Calls Try.prog 7 #[.slice A n c] w fun e w' => e = .returned (.bool true) ∧ Below w.heap.size w w' := by
  subst hn
  obtain ⟨ys, h1, h2, h3, h4⟩ := few_ci h hf hl
  have HF := Aside0.mk h4
  have HC := Aside0.mk h1
  have HW := Aside0.mk h2
  have hs : ((strOfNums (opB ys)).toList == (strOfNums (opB ys)).toList) = true := beq_self_eq_true _
  clear h hf hl h4 h1 h2
  go_enter Try.func7, Try.ntmps7
  go_wp2_with (first | (go_at_call 9; refine (lives_any _).mono ?_; rintro e w1 ⟨rfl, hb⟩; have HB := Aside0.mk hb; clear hb) | (go_at_call 10; refine (HF.out _ HB.out).mono ?_; rintro e w' ⟨rfl, rfl⟩) | (go_at_call 25; refine (open_any (HC.out.below HB.out) HW.out (by omega)).mono ?_; rintro e w2 ⟨v, rfl, ho⟩; obtain ⟨A1, c1, rfl, hc1⟩ := ho.reads; have HB2 := Aside0.mk (below_step HB.out ho.bel); have HO := Aside0.mk hc1; clear ho hc1) | (go_at_call 26; refine (rOpen_any (HC.out.below HB2.out) HW.out (by omega)).mono ?_; rintro e w3 ⟨A2, c2, rfl, hc2, hb⟩; have hs1 := (HO.out.below hb).str; have hs2 := (hc2.below hb).str; have HB3 := Aside0.mk (below_step HB2.out hb); clear hc2 hb))
  go_ret
  exact ⟨rfl, HB3.out⟩
end Go.Proofs.Ytjgianmcllkagaa.Wi
