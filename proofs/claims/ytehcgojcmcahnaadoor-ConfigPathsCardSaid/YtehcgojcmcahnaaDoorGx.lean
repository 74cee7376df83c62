/- Layer 4 (config): a config that may be, in a block, with its lists; where its paths lead. -/
import Derived.Test.YtehcgojcmcahnaaDoorCfPath
import Derived.Test.YtehcgojcmcahnaaDoorGc
set_option linter.unusedVariables false
set_option linter.unusedSimpArgs false
namespace Go.Proofs.YtehcgojcmcahnaaDoor.Cf
open Go.RowKit Go.Proofs.YtehcgojcmcahnaaDoorW.PrintWords Go.Proofs.YtehcgojcmcahnaaDoorW.PrintLast Go.Proofs.YtehcgojcmcahnaaDoorW.PrintMore Go.Proofs.YtehcgojcmcahnaaDoor.Cz Go.Proofs.YtehcgojcmcahnaaDoor.PConfigSame
theorem pathB_iff {C : Cfg} {a b : Int} (h : (chk C).e = 0) : pathB C a b = true ↔ (0 ≤ a ∧ a ≤ C.p - 1) ∧ (0 ≤ b ∧ b ≤ C.p - 1) ∧ Rch C.ks a b := by
  classical
  unfold pathB
  exact ⟨fun hh => (of_decide_eq_true hh).2, fun hh => decide_eq_true ⟨h, hh⟩⟩
theorem GoodC.e0 {G : Cfg} (h : GoodC G) : (Cf.chk G).e = 0 := by rw [h.chk]
theorem GoodC.self {G : Cfg} (h : GoodC G) {a : Int} (ha : 0 ≤ a ∧ a < G.p) : pathB G a a = true := (pathB_iff h.e0).2 ⟨by omega, by omega, .refl⟩
theorem path_over (G : Cfg) (a : Int) : pathB G a G.p = false := path_no fun hh => by omega
theorem path_under (G : Cfg) (a : Int) : pathB G (-1) a = false := path_no fun hh => by omega
theorem GoodC.trans {G : Cfg} (h : GoodC G) {a b d : Int} (h1 : pathB G a b = true) (h2 : pathB G b d = true) : pathB G a d = true :=
  (pathB_iff h.e0).2 ⟨((pathB_iff h.e0).1 h1).1, ((pathB_iff h.e0).1 h2).2.1, ((pathB_iff h.e0).1 h1).2.2.trans ((pathB_iff h.e0).1 h2).2.2⟩
theorem GoodC.chan {G : Cfg} (h : GoodC G) {x : S35} (hx : x ∈ G.ks) : pathB G x.f1 x.f2 = true := by
  have := rB_range (h.r x hx)
  exact (pathB_iff h.e0).2 ⟨by omega, by omega, .step x .refl hx⟩
/-- A config's block, its lists. -/
structure GX (w0 W : World) (gb : Nat) (G : Cfg) (A2 : Option Addr) (c2 : Nat) (A3 : Option Addr) (c3 : Nat) (A4 : Option Addr) (c4 : Nat) : Prop where
  bg : W.heap[gb]? = some (.cells #[.int .i64 G.p, .int .i64 G.f, .slice A2 G.ws.length c2, .slice A3 G.ks.length c3, .slice A4 G.ac.length c4] 26 (0, 0))
  cx : CX W G A2 c2 A3 c3 A4 c4
  bel : Below w0.heap.size w0 W
section
variable {w0 W W' : World} {gb : Nat} {G : Cfg} {A2 A3 A4 : Option Addr} {c2 c3 c4 : Nat}
theorem GX.far (h : GX w0 W gb G A2 c2 A3 c3 A4 c4) (hb : Below W.heap.size W W') : GX w0 W' gb G A2 c2 A3 c3 A4 c4 := ⟨blk_below h.bg hb, h.cx.below hb, below_step h.bel hb⟩
theorem GX.path (h : GX w0 W gb G A2 c2 A3 c3 A4 c4) (hg : LG w0) (l2 : G.ws.length ≤ 1000) (l3 : G.ks.length ≤ 1000) (l4 : G.ac.length ≤ 1000) (a b : Int) :
    Calls Tryd.prog 15 #[.agg #[.int .i64 G.p, .int .i64 G.f, .slice A2 G.ws.length c2, .slice A3 G.ks.length c3, .slice A4 G.ac.length c4], .int .i64 a, .int .i64 b] W fun e w' => e = .returned (.bool (pathB G a b)) ∧ GX w0 w' gb G A2 c2 A3 c3 A4 c4 :=
  (path_any h.cx (hg.below h.bel) l3 l4 l2 a b).mono fun e w' hh => ⟨hh.1, h.far hh.2⟩
end
end Go.Proofs.YtehcgojcmcahnaaDoor.Cf
