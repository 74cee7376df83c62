/- Layer 4 (config): rows of the call's own; slices.Clone at windows, channels and numbers. -/
import Derived.Test.YtehcgojcmcahnaaDoorCfC
set_option linter.unusedVariables false
set_option linter.unusedSimpArgs false
namespace Go.Proofs.YtehcgojcmcahnaaDoor.Cf
open Go.RowKit Go.Proofs.YtehcgojcmcahnaaDoorW.PrintWords Go.Proofs.YtehcgojcmcahnaaDoorW.PrintLast Go.Proofs.YtehcgojcmcahnaaDoorW.PrintMore Go.Proofs.YtehcgojcmcahnaaDoor.Cz Go.Proofs.YtehcgojcmcahnaaDoor.PConfigSame
attribute [local go_sem] max2_int min2_int max_two min_two max_three min_three max_four min_four
/-- A row of the call's own. -/
structure OK {α : Type} (d : Kd α) (e : TypeId) (w0 W : World) (v : Value) (xs : List α) : Prop where
  r : d.R e W w0.heap.size (fun k => w0.heap.size ≤ k) v xs
  bel : Below w0.heap.size w0 W
section
variable {α : Type} {d : Kd α} {e : TypeId} {w0 w1 W W' : World} {v : Value} {xs : List α}
theorem OK.reads (h : OK d e w0 W v xs) : ∃ A c, v = .slice A xs.length c ∧ Kd.C d W A xs.length xs ∧ xs.length ≤ c := by
  obtain ⟨A, c, e, hl, hc⟩ := Kd.R_reads h.r
  exact ⟨A, c, e, hc, hl⟩
theorem OK.far (h : OK d e w0 W v xs) (hb : Below W.heap.size W W') : OK d e w0 W' v xs := ⟨Kd.R_below h.r hb, below_step h.bel hb⟩
theorem OK.less (h : OK d e w1 W v xs) (hb : Below w0.heap.size w0 w1) : OK d e w0 W v xs :=
  ⟨Kd.R_mono (Kd.R_lower h.r hb.size) (fun k hk => Nat.le_trans hb.size hk), below_step hb h.bel⟩
theorem OK.ci {A : Option Addr} {n c : Nat} (h : OK d e w0 W (.slice A n c) xs) : Kd.C d W A xs.length xs ∧ n = xs.length ∧ xs.length ≤ c := by
  obtain ⟨A', c', e, hc, hl⟩ := h.reads
  injection e with e1 e2 e3
  subst e1 e3
  exact ⟨hc, e2, hl⟩
end
theorem eqnil33 (w : World) (a : Option Addr) (n c : Nat) : (binOp .eql 22 (.slice a n c) (.slice none 0 0)).run Tryd.prog w = .ok (.bool a.isNone) w := Lib.run_eql_slice_nil w _ _ a n c 0 0 Tryd.underlying22
theorem eqnil35 (w : World) (a : Option Addr) (n c : Nat) : (binOp .eql 23 (.slice a n c) (.slice none 0 0)).run Tryd.prog w = .ok (.bool a.isNone) w := Lib.run_eql_slice_nil w _ _ a n c 0 0 Tryd.underlying23
theorem eqnil3 (w : World) (a : Option Addr) (n c : Nat) : (binOp .eql 24 (.slice a n c) (.slice none 0 0)).run Tryd.prog w = .ok (.bool a.isNone) w := Lib.run_eql_slice_nil w _ _ a n c 0 0 Tryd.underlying24
attribute [local go_sem] eqnil33 eqnil35 eqnil3 Option.isNone_some Option.isNone_none
theorem hkm33 {w W : World} {base : Nat} {ok : Nat → Prop} {x : S33} {cs : List Value} (h : k33.K w x cs) : k33.M W base ok x cs := by
  rw [k33_open h]
  exact k33_mkM _ _ _ x
theorem hkm35 {w W : World} {base : Nat} {ok : Nat → Prop} {x : S35} {cs : List Value} (h : k35.K w x cs) : k35.M W base ok x cs := by
  rw [k35_open h]
  exact k35_mkM _ _ _ x
theorem none_len {α : Type} {d : Kd α} {w : World} {xs : List α} (h : Kd.C d w none xs.length xs) : xs = [] := by
  rcases xs with _ | ⟨x, t⟩
  · rfl
  · obtain ⟨_, _, h3⟩ := h
    obtain ⟨ad, e, _⟩ := h3 (by simp)
    cases e

set_option maxHeartbeats 4000000 in
set_option maxRecDepth 100000 in
theorem clone33_any {A : Option Addr} {c : Nat} {xs : List S33} {w : World} (h : Kd.C k33 w A xs.length xs) (hl : xs.length ≤ 1000) :
    Calls Tryd.prog 20 #[.slice A xs.length c] w fun e w' => ∃ v, e = .returned v ∧ OK k33 33 w w' v xs := by
  rcases A with _ | ad
  · obtain rfl := none_len h
    clear h
    go_enter Tryd.func20, Tryd.ntmps20
    go_wp2
    go_ret
    exact ⟨_, rfl, ⟨Kd.R_nil _ _ _ _ _, Below.refl _ _⟩⟩
  · have H := Aside0.mk h
    have HL := Aside0.mk hl
    clear h hl
    go_enter Tryd.func20, Tryd.ntmps20
    go_wp2_with (first | ((with_reducible refine gate_dst (N := 5) rfl ?_); refine Kd.R_lit k33 (w0 := w) w.heap.size 33 ?hg (N := 5) ?hd (xs := ([] : List S33)) (inner := []) (ok := fun k => w.heap.size ≤ k) (okp := fun k => w.heap.size ≤ k) ?hr ?hp (fun _ hk => hk) (Nat.le_refl _) (Below.refl _ _) (Nat.le_refl _) (by simp) ?_; (case hd => rfl); (case hg => rfl); (case hr => first | (go_simp; done) | (go_simp; rfl)); (case hp => exact Reps.none _ _); intro v1 w1 ho hb hg_ hnew_; clear hg_ hnew_; have HO := Aside0.mk ho; have HB := Aside0.mk hb; clear ho hb) | ((with_reducible refine gate_builtin (b := .append) (xs := #[.tmp 5, .tmp 6]) rfl ?_); at_builtin; refine Kd.R_append_rows k33 (Rr := Kd.K k33 w1) (w0 := w) w.heap.size rfl (.tmp 5) (.tmp 6) 22 33 (.agg #[(.int .i64 0), (.int .i64 0), (.int .i64 0)]) 24 rfl Tryd.underlying22 info33 rfl (by decide) (by decide) _ [] xs _ _ _ (fun k => w.heap.size ≤ k) (fun _ => False) rfl rfl ?aO ?aR ?aK (fun _ hk => hk.elim) (fun k hk => Nat.le_trans HB.out.size hk) ?aB ?aS ?aL ?_; (case aO => exact HO.out); (case aR => exact Kd.C_below H.out HB.out); (case aK => intro x cs hx; exact hkm33 hx); (case aB => exact HB.out); (case aS => exact HB.out.size); (case aL => have := HL.out; simp; omega); intro v2 w2 ho hb hg_ hat_; clear hg_ hat_; have HO2 := Aside0.mk ho; have HB2 := Aside0.mk hb; clear ho hb))
    go_ret
    exact ⟨_, rfl, ⟨by simpa using HO2.out, HB2.out⟩⟩
set_option maxHeartbeats 4000000 in
set_option maxRecDepth 100000 in
theorem clone35_any {A : Option Addr} {c : Nat} {xs : List S35} {w : World} (h : Kd.C k35 w A xs.length xs) (hl : xs.length ≤ 1000) :
    Calls Tryd.prog 21 #[.slice A xs.length c] w fun e w' => ∃ v, e = .returned v ∧ OK k35 35 w w' v xs := by
  rcases A with _ | ad
  · obtain rfl := none_len h
    clear h
    go_enter Tryd.func21, Tryd.ntmps21
    go_wp2
    go_ret
    exact ⟨_, rfl, ⟨Kd.R_nil _ _ _ _ _, Below.refl _ _⟩⟩
  · have H := Aside0.mk h
    have HL := Aside0.mk hl
    clear h hl
    go_enter Tryd.func21, Tryd.ntmps21
    go_wp2_with (first | ((with_reducible refine gate_dst (N := 5) rfl ?_); refine Kd.R_lit k35 (w0 := w) w.heap.size 35 ?hg (N := 5) ?hd (xs := ([] : List S35)) (inner := []) (ok := fun k => w.heap.size ≤ k) (okp := fun k => w.heap.size ≤ k) ?hr ?hp (fun _ hk => hk) (Nat.le_refl _) (Below.refl _ _) (Nat.le_refl _) (by simp) ?_; (case hd => rfl); (case hg => rfl); (case hr => first | (go_simp; done) | (go_simp; rfl)); (case hp => exact Reps.none _ _); intro v1 w1 ho hb hg_ hnew_; clear hg_ hnew_; have HO := Aside0.mk ho; have HB := Aside0.mk hb; clear ho hb) | ((with_reducible refine gate_builtin (b := .append) (xs := #[.tmp 5, .tmp 6]) rfl ?_); at_builtin; refine Kd.R_append_rows k35 (Rr := Kd.K k35 w1) (w0 := w) w.heap.size rfl (.tmp 5) (.tmp 6) 23 35 (.agg #[(.int .i64 0), (.int .i64 0), (.int .i64 0), (.int .i64 0), (.int .i64 0), (.int .i64 0), (.int .i64 0), (.int .i64 0), (.int .i64 0), (.int .i64 0), (.int .i64 0)]) 88 rfl Tryd.underlying23 info35 rfl (by decide) (by decide) _ [] xs _ _ _ (fun k => w.heap.size ≤ k) (fun _ => False) rfl rfl ?aO ?aR ?aK (fun _ hk => hk.elim) (fun k hk => Nat.le_trans HB.out.size hk) ?aB ?aS ?aL ?_; (case aO => exact HO.out); (case aR => exact Kd.C_below H.out HB.out); (case aK => intro x cs hx; exact hkm35 hx); (case aB => exact HB.out); (case aS => exact HB.out.size); (case aL => have := HL.out; simp; omega); intro v2 w2 ho hb hg_ hat_; clear hg_ hat_; have HO2 := Aside0.mk ho; have HB2 := Aside0.mk hb; clear ho hb))
    go_ret
    exact ⟨_, rfl, ⟨by simpa using HO2.out, HB2.out⟩⟩
set_option maxHeartbeats 4000000 in
set_option maxRecDepth 100000 in
theorem clone3_any {A : Option Addr} {c : Nat} {xs : List Int} {w : World} (h : Kd.C (Kd.int .i64) w A xs.length xs) (hl : xs.length ≤ 1000) :
    Calls Tryd.prog 22 #[.slice A xs.length c] w fun e w' => ∃ v, e = .returned v ∧ OK (Kd.int .i64) 3 w w' v xs := by
  rcases A with _ | ad
  · obtain rfl := none_len h
    clear h
    go_enter Tryd.func22, Tryd.ntmps22
    go_wp2
    go_ret
    exact ⟨_, rfl, ⟨Kd.R_nil _ _ _ _ _, Below.refl _ _⟩⟩
  · have H := Aside0.mk h
    have HL := Aside0.mk hl
    clear h hl
    go_enter Tryd.func22, Tryd.ntmps22
    go_wp2_with (first | ((with_reducible refine gate_dst (N := 5) rfl ?_); refine Kd.R_lit (Kd.int .i64) (w0 := w) w.heap.size 3 ?hg (N := 5) ?hd (xs := ([] : List Int)) (inner := []) (ok := fun k => w.heap.size ≤ k) (okp := fun k => w.heap.size ≤ k) ?hr ?hp (fun _ hk => hk) (Nat.le_refl _) (Below.refl _ _) (Nat.le_refl _) (by simp) ?_; (case hd => rfl); (case hg => rfl); (case hr => first | (go_simp; done) | (go_simp; rfl)); (case hp => exact Reps.none _ _); intro v1 w1 ho hb hg_ hnew_; clear hg_ hnew_; have HO := Aside0.mk ho; have HB := Aside0.mk hb; clear ho hb) | ((with_reducible refine gate_builtin (b := .append) (xs := #[.tmp 5, .tmp 6]) rfl ?_); at_builtin; refine Kd.R_append_rows (Kd.int .i64) (Rr := Kd.K (Kd.int .i64) w1) (w0 := w) w.heap.size rfl (.tmp 5) (.tmp 6) 24 3 (.int .i64 0) 8 rfl Tryd.underlying24 info3 rfl (by decide) (by decide) _ [] xs _ _ _ (fun k => w.heap.size ≤ k) (fun _ => False) rfl rfl ?aO ?aR ?aK (fun _ hk => hk.elim) (fun k hk => Nat.le_trans HB.out.size hk) ?aB ?aS ?aL ?_; (case aO => exact HO.out); (case aR => exact Kd.C_below H.out HB.out); (case aK => intro x cs hx; exact hx); (case aB => exact HB.out); (case aS => exact HB.out.size); (case aL => have := HL.out; simp; omega); intro v2 w2 ho hb hg_ hat_; clear hg_ hat_; have HO2 := Aside0.mk ho; have HB2 := Aside0.mk hb; clear ho hb))
    go_ret
    exact ⟨_, rfl, ⟨by simpa using HO2.out, HB2.out⟩⟩
end Go.Proofs.YtehcgojcmcahnaaDoor.Cf
