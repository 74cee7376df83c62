/- Layer 13 (window): Before. -/
import Derived.Test.YtmmkbgilcggkkaaDoorWh
import Derived.Deep.RegionHeld3
set_option linter.unusedVariables false
set_option linter.unusedSimpArgs false
namespace Go.Proofs.YtmmkbgilcggkkaaDoor.Wn
open Go Go.RowKit Go.Shelf Go.Proofs.YtmmkbgilcggkkaaDoorW.PrintWords Go.Proofs.YtmmkbgilcggkkaaDoorW.PrintLast Go.Proofs.YtmmkbgilcggkkaaDoorW.PrintMore Go.Proofs.YtmmkbgilcggkkaaDoor.Cz Go.Proofs.YtmmkbgilcggkkaaDoor.PWindowCalls Go.Proofs.YtmmkbgilcggkkaaDoor.Cf Go.Proofs.YtmmkbgilcggkkaaDoor.Sat
attribute [local go_sem] Tryd.underlying26 Tryd.underlying41
/-- How many ticks below one are an owner's. -/
def beforeN (C : Cfg) (o now : Int) : Int := tadd (tmul (cut now / fr C.f) (countN C o)) (belowN C o (phase C now))
set_option maxHeartbeats 16000000 in
set_option maxRecDepth 100000 in
theorem before_any {C : Cfg} {A2 A3 A4 : Option Addr} {c2 c3 c4 : Nat} {w : World} (hX : CX w C A2 c2 A3 c3 A4 c4) (hg : LG w) (lk : C.ks.length ≤ 1000) (la : C.ac.length ≤ 1000) (lw : C.ws.length ≤ 1000) (o now : Int) :
    Calls Tryd.prog 13 #[.agg #[.int .i64 C.p, .int .i64 C.f, .slice A2 C.ws.length c2, .slice A3 C.ks.length c3, .slice A4 C.ac.length c4], .int .i64 o, .int .i64 now] w fun e w' => e = .returned (.int .i64 (beforeN C o now)) ∧ Below w.heap.size w w' := by
  have H1 : Below w.heap.size w (w.alloc (.cells #[.int .i64 C.p, .int .i64 C.f, .slice A2 C.ws.length c2, .slice A3 C.ks.length c3, .slice A4 C.ac.length c4] 26)) ∧ (w.alloc (.cells #[.int .i64 C.p, .int .i64 C.f, .slice A2 C.ws.length c2, .slice A3 C.ks.length c3, .slice A4 C.ac.length c4] 26)).heap[w.heap.size]? = some (.cells #[.int .i64 C.p, .int .i64 C.f, .slice A2 C.ws.length c2, .slice A3 C.ks.length c3, .slice A4 C.ac.length c4] 26 (0, 0)) := ⟨below_alloc (Below.refl _ _) _, blk_new _ _⟩
  have PX := Aside0.mk (fun w => phase_any now C.f w)
  have RX := Aside0.mk (fun w => round_any now C.f w)
  have hph : phase C now = cut now % fr C.f := rfl
  rw [← hph] at PX
  clear hph
  have CN := Aside0.mk (fun (W : World) (hb : Below w.heap.size w W) => count_any (hX.below hb) (hg.below hb) lk la lw o)
  have BN := Aside0.mk (fun (W : World) (hb : Below w.heap.size w W) => below_any (hX.below hb) (hg.below hb) lk la lw o (phase C now))
  have HV : Aside0 (beforeN C o now = tadd (tmul (cut now / fr C.f) (countN C o)) (belowN C o (phase C now))) := ⟨rfl⟩
  generalize beforeN C o now = res at HV ⊢
  generalize phase C now = ph at PX BN HV
  generalize countN C o = k at CN HV
  generalize belowN C o ph = b at BN HV
  generalize cut now / fr C.f = rd at RX HV
  clear hX hg lk la lw
  go_enter Tryd.func13, Tryd.ntmps13
  go_upto_region 1 with (first | fail)
  revert H1
  generalize (w.alloc (.cells #[.int .i64 C.p, .int .i64 C.f, .slice A2 C.ws.length c2, .slice A3 C.ks.length c3, .slice A4 C.ac.length c4] 26)) = W1
  intro H1
  have b0 := (blk_cell H1.2 0).trans (show _ = some (.int .i64 C.p) from rfl)
  have b1 := (blk_cell H1.2 1).trans (show _ = some (.int .i64 C.f) from rfl)
  have b2 := (blk_cell H1.2 2).trans (show _ = some (.slice A2 C.ws.length c2) from rfl)
  have b3 := (blk_cell H1.2 3).trans (show _ = some (.slice A3 C.ks.length c3) from rfl)
  have b4 := (blk_cell H1.2 4).trans (show _ = some (.slice A4 C.ac.length c4) from rfl)
  have TS := Aside0.mk (fun (W : World) (hb : Below W1.heap.size W1 W) => And.intro (cell_b b0 hb) (And.intro (cell_b b1 hb) (And.intro (cell_b b2 hb) (And.intro (cell_b b3 hb) (cell_b b4 hb)))))
  have HW := Aside0.mk H1.1
  have HB := Aside0.mk (below_drew (Below.refl W1.heap.size W1))
  clear H1
  go_region_held3 (fun w' => w'.cell? ⟨w.heap.size, 0, none⟩ = some (.int .i64 C.p) ∧ w'.cell? ⟨w.heap.size, 1, none⟩ = some (.int .i64 C.f) ∧ w'.cell? ⟨w.heap.size, 2, none⟩ = some (.slice A2 C.ws.length c2) ∧ w'.cell? ⟨w.heap.size, 3, none⟩ = some (.slice A3 C.ks.length c3) ∧ w'.cell? ⟨w.heap.size, 4, none⟩ = some (.slice A4 C.ac.length c4)) (first | exact TS.out _ HB.out | exact TS.out _ (below_drew (Below.refl _ _)) | go_keep) (first | (go_at_call 17; (with_reducible refine (CN.out _ (below_step HW.out HB.out)).mono ?_); rintro e w7 ⟨rfl, hb⟩; have HBn := Aside0.mk (below_step HB.out hb); clear HB; have HB := HBn; clear HBn; clear hb) | (go_at_call 26; (with_reducible refine (BN.out _ (below_step HW.out HB.out)).mono ?_); rintro e w7 ⟨rfl, hb⟩; have HBn := Aside0.mk (below_step HB.out hb); clear HB; have HB := HBn; clear HBn; clear hb) | (go_at_call 25; (with_reducible refine (RX.out _).mono ?_); rintro e w7 ⟨rfl, rfl⟩) | (go_at_call 27; (with_reducible refine (PX.out _).mono ?_); rintro e w7 ⟨rfl, rfl⟩) | (go_at_call 24; (with_reducible refine (mul_any _ _ _).mono ?_); rintro e w7 ⟨rfl, rfl⟩) | (go_at_call 23; (with_reducible refine (add_any _ _ _).mono ?_); rintro e w7 ⟨rfl, rfl⟩))
  all_goals
    go_wp2
    go_ret
    exact ⟨by rw [HV.out]; rfl, below_step HW.out HB.out⟩
end Go.Proofs.YtmmkbgilcggkkaaDoor.Wn
