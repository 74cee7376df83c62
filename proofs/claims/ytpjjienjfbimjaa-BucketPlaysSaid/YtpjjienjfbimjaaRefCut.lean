/- The contract of the reference's Cut. -/
import Derived.Test.YtpjjienjfbimjaaSat
set_option linter.unusedVariables false
set_option linter.unusedSimpArgs false
namespace Go.Proofs.Ytpjjienjfbimjaa.Sat
open Go.RowKit Go.Proofs.YtpjjienjfbimjaaW.PrintWords Go.Proofs.YtpjjienjfbimjaaW.PrintLast Go.Proofs.YtpjjienjfbimjaaW.PrintMore
theorem rcut_any (a : Int) (w : World) : Calls Try.prog 27 #[.int .i64 a] w fun e w' => e = .returned (.int .i64 (cut a)) ∧ w = w' := by
  by_cases c1 : a < 0
  · have c1' : decide (a < 0) = true := decide_eq_true c1
    have hr : cut a = 0 := cut_neg (by omega)
    have HR := Lib.hid hr
    clear hr c1
    go_enter Try.func27, Try.ntmps27
    go_wp2
    go_ret
    exact ⟨ret_int HR.out.symm, rfl⟩
  · have c1' : decide (a < 0) = false := decide_eq_false c1
    by_cases c2 : 4611686018427387904 < a
    · have c2' : decide (4611686018427387904 < a) = true := decide_eq_true c2
      have hr : cut a = 4611686018427387904 := cut_big (by omega)
      have HR := Lib.hid hr
      clear hr c1 c2
      go_enter Try.func27, Try.ntmps27
      go_wp2
      go_ret
      exact ⟨ret_int HR.out.symm, rfl⟩
    · have c2' : decide (4611686018427387904 < a) = false := decide_eq_false c2
      have hr : cut a = a := cut_in (by omega) (by omega)
      have HR := Lib.hid hr
      clear hr c1 c2
      go_enter Try.func27, Try.ntmps27
      go_wp2
      go_ret
      exact ⟨ret_int HR.out.symm, rfl⟩
end Go.Proofs.Ytpjjienjfbimjaa.Sat
