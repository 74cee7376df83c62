/- Layer 4 (config): what is small: between, amiss, heads; a config in memory. -/
import Derived.Test.YtehcgojcmcahnaaDoorCfS
set_option linter.unusedVariables false
set_option linter.unusedSimpArgs false
namespace Go.Proofs.YtehcgojcmcahnaaDoor.Cf
open Go.RowKit Go.Proofs.YtehcgojcmcahnaaDoorW.PrintWords Go.Proofs.YtehcgojcmcahnaaDoorW.PrintLast Go.Proofs.YtehcgojcmcahnaaDoorW.PrintMore Go.Proofs.YtehcgojcmcahnaaDoor.Cz Go.Proofs.YtehcgojcmcahnaaDoor.PConfigSame
attribute [local go_sem] max2_int min2_int max_two min_two max_three min_three max_four min_four Tryd.underlying26 Tryd.underlying30 Tryd.underlying57
/-- A config in plain words. -/
structure Cfg where
  p : Int
  f : Int
  ws : List S33
  ks : List S35
  ac : List Int
/-- Its lists in memory. -/
structure CX (W : World) (C : Cfg) (A2 : Option Addr) (c2 : Nat) (A3 : Option Addr) (c3 : Nat) (A4 : Option Addr) (c4 : Nat) : Prop where
  w : Kd.C k33 W A2 C.ws.length C.ws
  wl : C.ws.length ≤ c2
  k : Kd.C k35 W A3 C.ks.length C.ks
  kl : C.ks.length ≤ c3
  a : Kd.C (Kd.int .i64) W A4 C.ac.length C.ac
  al : C.ac.length ≤ c4
theorem CX.below {W W' : World} {C : Cfg} {A2 A3 A4 : Option Addr} {c2 c3 c4 : Nat} (h : CX W C A2 c2 A3 c3 A4 c4) (hb : Below W.heap.size W W') : CX W' C A2 c2 A3 c3 A4 c4 :=
  ⟨Kd.C_below h.w hb, h.wl, Kd.C_below h.k hb, h.kl, Kd.C_below h.a hb, h.al⟩
end Go.Proofs.YtehcgojcmcahnaaDoor.Cf
