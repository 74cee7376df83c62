/- Layer 4 (config): slices.IndexFunc with config's own test of a channel; lists. -/
import Derived.Test.YtehcgojcmcahnaaDoorCfA
set_option linter.unusedVariables false
set_option linter.unusedSimpArgs false
namespace Go.Proofs.YtehcgojcmcahnaaDoor.Cf
open Go.RowKit Go.Proofs.YtehcgojcmcahnaaDoorW.PrintWords Go.Proofs.YtehcgojcmcahnaaDoorW.PrintLast Go.Proofs.YtehcgojcmcahnaaDoorW.PrintMore Go.Proofs.YtehcgojcmcahnaaDoor.Cz Go.Proofs.YtehcgojcmcahnaaDoor.PConfigSame
attribute [local go_sem] max2_int min2_int max_two min_two max_three min_three max_four min_four Tryd.underlying26 Tryd.underlying35 Tryd.underlying33
def rB (p : Int) (x : S35) : Bool := rightB p x.f0 x.f1 x.f2 x.f3 x.f4 x.f5 x.f6 x.f7 x.f8 x.f9 x.f10
theorem idxK_any {p f : Int} {v2 v3 v4 : Value} {g : Nat} {A : Option Addr} {c : Nat} {xs : List S35} {w : World} (h : Kd.C k35 w A xs.length xs) (hl : xs.length ≤ 1000000) (hg : w.heap[g]? = some (.cells #[.int .i64 p, .int .i64 f, v2, v3, v4] 26 (0, 0))) :
    Calls Tryd.prog 35 #[.slice A xs.length c, .func (.func 36) #[] #[.pointer (some ⟨g, 0, none⟩)]] w fun e w' => e = .returned (.int .i64 (findI (fun x => !rB p x) xs 0)) ∧ Below w.heap.size w w' := by
  have H := Aside0.mk h
  have HG := Aside0.mk hg
  clear h hg
  go_enter Tryd.func35, Tryd.ntmps35
  go_wp2
  go_loopw [8] (fun v8 wr => ∃ j : Nat, j ≤ xs.length ∧ v8 = .int .i64 j ∧ Aside0 (Below w.heap.size w wr) ∧ Aside0 (findI (fun x => !rB p x) xs 0 = findI (fun x => !rB p x) (xs.drop j) j)) (fun v8 _ => xs.length - (intOf v8).toNat)
  case atStart => exact ⟨0, by omega, rfl, ⟨Below.refl _ _⟩, ⟨rfl⟩⟩
  case round =>
    obtain ⟨j, hj, rfl, HB, HF⟩ := hrel
    by_cases hlt : j < xs.length
    · have hst := findI_step (fun x => !rB p x) xs j hlt
      have hx : rd_T35 xs (j : Int) = xs[j] := by simp [rd_T35, hlt]
      have hcs := at_T35 (Kd.C_below H.out HB.out) (j : Int) (by omega) (by omega)
      rw [hx] at hcs
      rw [← HF.out] at hst
      have HS := Aside0.mk hst
      clear hst HF hx
      have HT : Aside0 (∀ x : S35, Calls Tryd.prog 36 #[.agg #[.int .i64 x.f0, .int .i64 x.f1, .int .i64 x.f2, .int .i64 x.f3, .int .i64 x.f4, .int .i64 x.f5, .int .i64 x.f6, .int .i64 x.f7, .int .i64 x.f8, .int .i64 x.f9, .int .i64 x.f10], .pointer (some ⟨g, 0, none⟩)] wr fun e w' => e = .returned (.bool (!rB p x)) ∧ Below wr.heap.size wr w') := ⟨fun x => rtest_any x.f0 x.f1 x.f2 x.f3 x.f4 x.f5 x.f6 x.f7 x.f8 x.f9 x.f10 (blk_below HG.out HB.out)⟩
      generalize xs[j] = x at hcs HS
      obtain ⟨ad, rfl, e0, e1, e2, e3, e4, e5, e6, e7, e8, e9, e10⟩ := hcs
      have hj0 : 0 ≤ (j : Int) := by omega
      have hj1 : (j : Int) < xs.length := by omega
      have hjt : (j : Int).toNat = j := Int.toNat_natCast j
      rw [hjt] at e0 e1 e2 e3 e4 e5 e6 e7 e8 e9 e10
      clear hjt
      cases hq : rB p x
      · go_wp2_with (first | (go_at_call 36; refine (HT.out x).mono ?_; rintro e w2 ⟨rfl, hb⟩))
        go_ret
        refine ⟨?_, below_step HB.out hb⟩
        rw [HS.out]
        simp [hq]
      · go_wp2_with (first | (go_at_call 36; refine (HT.out x).mono ?_; rintro e w2 ⟨rfl, hb⟩; have HB2 := Aside0.mk (below_step HB.out hb); clear hb))
        go_roundw
        case rel => exact ⟨j + 1, by omega, by go_num, HB2, ⟨by rw [HS.out]; simp [hq]⟩⟩
        case measure => simp [intOf]; omega
    · have hd : decide ((j : Int) < (xs.length : Int)) = false := decide_eq_false (by omega)
      have hdn : decide (j < xs.length) = false := decide_eq_false hlt
      obtain rfl : j = xs.length := by omega
      rw [List.drop_length] at HF
      go_wp2
      go_ret
      exact ⟨by rw [HF.out]; rfl, HB.out⟩
end Go.Proofs.YtehcgojcmcahnaaDoor.Cf
