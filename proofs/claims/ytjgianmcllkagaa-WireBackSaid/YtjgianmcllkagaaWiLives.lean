/- Layer 3 (wire): the document's example; widths. -/
import Derived.Test.YtjgianmcllkagaaWiRN
set_option linter.unusedVariables false
set_option linter.unusedSimpArgs false
namespace Go.Proofs.Ytjgianmcllkagaa.Wi
open Go.RowKit Go.Proofs.YtjgianmcllkagaaW.PrintWords Go.Proofs.YtjgianmcllkagaaW.PrintLast Go.Proofs.YtjgianmcllkagaaW.PrintMore
attribute [local go_sem] max2_int min2_int max_two min_two max_three min_three max_four min_four
theorem CI.str {W : World} {A : Option Addr} {c : Nat} {xs : List Int} (h : CI .u8 W A c xs) : (convert 22 9 (.slice A xs.length c)).run Try.prog W = .ok (.string (strOfNums xs)) W :=
  Kd.C_string Try.underlying22 Try.underlying5 Try.underlying9 h.c
theorem put_ex (w : World) : Calls Try.prog 19 #[.slice none 0 0, .int .i64 2, .int .i64 258] w fun e w1 => ∃ A c, e = .returned (.tuple #[.slice A 2 c, .int .i64 0]) ∧ Below w.heap.size w w1 ∧ CI .u8 w1 A c [1, 2] := by
  refine (put_ok (n := 2) (v := 258) (w := w) (by decide) (CI.nil .u8 w) (by decide)).mono ?_
  rintro e w1 ⟨r, rfl, ho⟩
  obtain ⟨A1, c1, rfl, hc⟩ := ho.reads
  exact ⟨A1, c1, rfl, ho.bel, hc⟩
theorem wf12 : WF [1, 2] := by intro x hx; simp at hx; omega
theorem next_ex {g : Nat} {w : World} (h : RD w g ⟨[1, 2], 0⟩) : Calls Try.prog 13 #[.pointer (some ⟨g, 0, none⟩), .int .i64 2] w fun e w' => e = .returned (.int .i64 258) ∧ RD w' g ⟨[], 0⟩ ∧ w.grownBy w' (some g) := next_any h 2
theorem lives_any (w : World) : Calls Try.prog 9 #[] w fun e w' => e = .returned (.bool true) ∧ Below w.heap.size w w' := by
  go_enter Try.func9, Try.ntmps9
  go_wp2_with (first | (go_at_call 19; refine (put_ex _).mono ?_; rintro e w1 ⟨A1, c1, rfl, hb, hc⟩; have HO := Aside0.mk hb; have HC := Aside0.mk hc; have HR := Aside0.mk (read_any hc wf12 (by decide)); clear hb hc) | (go_at_call 11; refine HR.out.mono ?_; clear HR; rintro e w2 ⟨g, rfl, hr, hb, hg⟩; have HR := Aside0.mk hr; have HB := Aside0.mk hb; have HG := Aside0.mk hg; clear hr hb hg) | (go_at_call 13; refine (next_ex HR.out).mono ?_; rintro e w3 ⟨rfl, hr, hg⟩; have hb3 := below_grown HB.out hg (fun k hk => by cases hk; exact HG.out); have hcs : (convert 22 9 (.slice A1 2 c1)).run Try.prog w3 = .ok (.string ⟨#[1, 2]⟩) w3 := (HC.out.below hb3).str; have HE := Aside0.mk (end_any hr); have HS := Aside0.mk (sum_any (HC.out.below hb3) wf12 (by decide)); clear HR; have HR := Aside0.mk hr; have HB3 := Aside0.mk (below_step HO.out hb3); clear hr hb3 hg) | (go_at_call 16; refine HE.out.mono ?_; rintro e w' ⟨rfl, rfl⟩) | (go_at_call 21; refine HS.out.mono ?_; rintro e w' ⟨rfl, rfl⟩))
  go_ret
  exact ⟨rfl, HB3.out⟩
theorem u64_nn (n : Int) : 0 ≤ IntKind.u64.wrap n := by
  simp only [IntKind.wrap, IntKind.bits, IntKind.signed]
  simp
  omega
def wd (n : Int) : Int := if IntKind.u64.wrap n % 3 = 0 then 1 else if IntKind.u64.wrap n % 3 = 1 then 2 else 4
theorem wd_of (n : Int) : wd n = 1 ∨ wd n = 2 ∨ wd n = 4 := by
  unfold wd
  split
  · exact .inl rfl
  · split
    · exact .inr (.inl rfl)
    · exact .inr (.inr rfl)
theorem wide_any (n : Int) (w : World) : Calls Try.prog 18 #[.int .i64 n] w fun e w' => e = .returned (.int .i64 (wd n)) ∧ Below w.heap.size w w' := by
  have h0 := u64_nn n
  obtain ⟨m, hm⟩ : ∃ m : Nat, IntKind.u64.wrap n % 3 = m := ⟨(IntKind.u64.wrap n % 3).toNat, by omega⟩
  have hw : wrap64 (Int.tmod (IntKind.u64.wrap n) 3) = (m : Int) := by
    rw [Int.tmod_eq_emod_of_nonneg h0, hm, w64 (by omega) (by omega)]
  have hm3 : m < 3 := by omega
  have hd : wd n = rd [1, 2, 4] m := by
    unfold wd
    rw [hm]
    rcases m with _ | _ | _ | m
    · rfl
    · rfl
    · rfl
    · omega
  rw [hd]
  clear hd h0
  have hm0 : 0 ≤ (m : Int) := by omega
  have hm1 : (m : Int) < ((3 : Nat) : Int) := by omega
  have hm2 : (m : Int) < 3 := by omega
  have HM3 := Aside0.mk hm3
  have HW := Aside0.mk hw
  clear hm hm3 hw
  go_enter Try.func18, Try.ntmps18
  go_wp2_with (first | ((with_reducible refine gate_dst (N := 3) rfl ?_); refine lit_ints (k := .i64) (e := 3) ?hg (N := 3) ?hd [1, 2, 4] #[.int .i64 1, .int .i64 2, .int .i64 4] ?hr ?hi ?hm ?_; (case hd => rfl); (case hg => rfl); (case hr => first | (go_simp; done) | (go_simp; rfl)); (case hi => rfl); (case hm => simp); intro D w1 hC hB_; have HC := Aside0.mk hC; have HB := Aside0.mk hB_; clear hC hB_))
  have hmN : m < 3 := HM3.out
  rw [HW.out]
  obtain ⟨ad, rfl, hcell⟩ := HC.out.at_ (i := m) HM3.out
  go_simp
  go_wp2
  go_ret
  exact ⟨rfl, HB.out.bel⟩
end Go.Proofs.Ytjgianmcllkagaa.Wi
