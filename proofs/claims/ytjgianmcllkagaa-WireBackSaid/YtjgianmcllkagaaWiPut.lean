/- Layer 3 (wire): Put, of the program. -/
import Derived.Test.YtjgianmcllkagaaWiC
set_option linter.unusedVariables false
set_option linter.unusedSimpArgs false
namespace Go.Proofs.Ytjgianmcllkagaa.Wi
open Go.RowKit Go.Proofs.YtjgianmcllkagaaW.PrintWords Go.Proofs.YtjgianmcllkagaaW.PrintLast Go.Proofs.YtjgianmcllkagaaW.PrintMore
attribute [local go_sem] max2_int min2_int max_two min_two max_three min_three max_four min_four
theorem put_bad {n v : Int} (h : putE n v ≠ 0) (A : Option Addr) (m c : Nat) (w : World) :
    Calls Try.prog 19 #[.slice A m c, .int .i64 n, .int .i64 v] w fun e w' => e = .returned (.tuple #[.slice A m c, .int .i64 (putE n v)]) ∧ w = w' := by
  by_cases hl : lim n = 0
  · have e : putE n v = 8 := by unfold putE; rw [if_pos hl]
    have hb : (lim n != 0) = false := by rw [hl]; rfl
    rw [e]
    clear h hl e
    go_enter Try.func19, Try.ntmps19
    go_wp2_with (first | (go_at_call 29; refine (is_any _ _).mono ?_; rintro e w' ⟨rfl, rfl⟩; rw [hb]))
    go_ret2
    exact ⟨rfl, rfl⟩
  · have hv : v < 0 ∨ lim n ≤ v := by
      unfold putE at h
      rw [if_neg hl] at h
      split at h
      · assumption
      · exact absurd rfl h
    have e : putE n v = 7 := by
      unfold putE
      rw [if_neg hl, if_pos hv]
    have hb : (lim n != 0) = true := bne_iff_ne.mpr hl
    rw [e]
    clear h e
    by_cases hv0 : v < 0
    · have hd : decide (v < 0) = true := decide_eq_true hv0
      clear hv hv0
      go_enter Try.func19, Try.ntmps19
      go_wp2_with (first | (go_at_call 29; refine (is_any _ _).mono ?_; rintro e w' ⟨rfl, rfl⟩; rw [hb]))
      go_ret2
      exact ⟨rfl, rfl⟩
    · have hd : decide (v < 0) = false := decide_eq_false hv0
      have hv1 : lim n ≤ v := by omega
      clear hv
      rcases lim_of hl with rfl | rfl | rfl
      · have hv2 : (256 : Int) ≤ v := hv1
        have hd2 : decide (0 < v / 256) = true := decide_eq_true (by omega)
        clear hv1 hl hv0 hv2
        go_enter Try.func19, Try.ntmps19
        go_wp2_with (first | (go_at_call 29; refine (is_any _ _).mono ?_; rintro e w' ⟨rfl, rfl⟩; rw [hb]))
        go_ret2
        exact ⟨rfl, rfl⟩
      · have hv2 : (65536 : Int) ≤ v := hv1
        have hd2 : decide (0 < v / 65536) = true := decide_eq_true (by omega)
        clear hv1 hl hv0 hv2
        go_enter Try.func19, Try.ntmps19
        go_wp2_with (first | (go_at_call 29; refine (is_any _ _).mono ?_; rintro e w' ⟨rfl, rfl⟩; rw [hb]))
        go_ret2
        exact ⟨rfl, rfl⟩
      · have hv2 : (4294967296 : Int) ≤ v := hv1
        have hd2 : decide (0 < v / 4294967296) = true := decide_eq_true (by omega)
        clear hv1 hl hv0 hv2
        go_enter Try.func19, Try.ntmps19
        go_wp2_with (first | (go_at_call 29; refine (is_any _ _).mono ?_; rintro e w' ⟨rfl, rfl⟩; rw [hb]))
        go_ret2
        exact ⟨rfl, rfl⟩
theorem wrap8 (x : Int) : IntKind.u8.wrap x = x % 256 := by simp [IntKind.wrap, IntKind.bits, IntKind.signed]
theorem put_ok1 {v : Int} (h0 : 0 ≤ v) (h1 : v < 256) {A : Option Addr} {c : Nat} {xs : List Int} {w : World} (h : CI .u8 w A c xs) (hl : xs.length ≤ 900) :
    Calls Try.prog 19 #[.slice A xs.length c, .int .i64 1, .int .i64 v] w fun e w' => ∃ r, e = .returned (.tuple #[r, .int .i64 0]) ∧ OI .u8 5 w w' r (xs ++ putB 1 v) := by
  have H := Aside0.mk h
  have HL := Aside0.mk hl
  have hb : (lim 1 != 0) = true := rfl
  have hd : decide (v < 0) = false := decide_eq_false (by omega)
  have hd2 : decide (0 < v / 256) = false := decide_eq_false (by omega)
  clear h hl h0 h1
  go_enter Try.func19, Try.ntmps19
  go_wp2_with (first | (go_at_call 29; refine (is_any _ _).mono ?_; rintro e w' ⟨rfl, rfl⟩; rw [hb]) | (go_at_call 27; refine (clone_any H.out (Nat.le_trans HL.out (by decide))).mono ?_; rintro e w' ⟨v0, rfl, ho⟩; have HO := Aside0.mk ho; clear ho) | ((with_reducible refine gate_dst (N := 50) rfl ?_); refine lit_ints (k := .u8) (e := 5) ?hg (N := 50) ?hd [v % 256] #[.int .u8 (v % 256)] ?hr ?hi ?hm ?_; (case hd => rfl); (case hg => rfl); (case hr => first | (go_simp; done) | (go_simp; rfl)); (case hi => rfl); (case hm => simp); intro B w1 hC hB_; have hl_ := hB_.bel; clear hB_) | ((with_reducible refine gate_builtin (b := .append) (xs := #[.tmp 47, .tmp 50]) rfl ?_); at_builtin; refine app_ints (k := .u8) (w0 := w) rfl (.tmp 47) (.tmp 50) 22 1 rfl Try.underlying22 info8 (by decide) (by decide) _ xs [v % 256] _ _ _ rfl rfl rfl ?aO ?aR ?aL ?_; (case aL => have := HL.out; simp; omega); (case aR => exact hC); (case aO => exact HO.out.far hl_); intro v2 w2 ho hg hat; clear HO; have HO := Aside0.mk ho; clear ho hl_ hC hg hat))
  go_ret2
  exact ⟨_, rfl, by simpa [putB] using HO.out⟩
theorem put_ok2 {v : Int} (h0 : 0 ≤ v) (h1 : v < 65536) {A : Option Addr} {c : Nat} {xs : List Int} {w : World} (h : CI .u8 w A c xs) (hl : xs.length ≤ 900) :
    Calls Try.prog 19 #[.slice A xs.length c, .int .i64 2, .int .i64 v] w fun e w' => ∃ r, e = .returned (.tuple #[r, .int .i64 0]) ∧ OI .u8 5 w w' r (xs ++ putB 2 v) := by
  have H := Aside0.mk h
  have HL := Aside0.mk hl
  have hb : (lim 2 != 0) = true := rfl
  have hd : decide (v < 0) = false := decide_eq_false (by omega)
  have hd2 : decide (0 < v / 65536) = false := decide_eq_false (by omega)
  clear h hl h0 h1
  go_enter Try.func19, Try.ntmps19
  go_wp2_with (first | (go_at_call 29; refine (is_any _ _).mono ?_; rintro e w' ⟨rfl, rfl⟩; rw [hb]) | (go_at_call 27; refine (clone_any H.out (Nat.le_trans HL.out (by decide))).mono ?_; rintro e w' ⟨v0, rfl, ho⟩; have HO := Aside0.mk ho; clear ho) | ((with_reducible refine gate_dst (N := 45) rfl ?_); refine lit_ints (k := .u8) (e := 5) ?hg (N := 45) ?hd [v / 256 % 256] #[.int .u8 (v / 256 % 256)] ?hr ?hi ?hm ?_; (case hd => rfl); (case hg => rfl); (case hr => first | (go_simp; done) | (go_simp; rfl)); (case hi => rfl); (case hm => simp); intro B w1 hC hB_; have hl_ := hB_.bel; clear hB_) | ((with_reducible refine gate_builtin (b := .append) (xs := #[.tmp 41, .tmp 45]) rfl ?_); at_builtin; refine app_ints (k := .u8) (w0 := w) rfl (.tmp 41) (.tmp 45) 22 1 rfl Try.underlying22 info8 (by decide) (by decide) _ xs [v / 256 % 256] _ _ _ rfl rfl rfl ?aO ?aR ?aL ?_; (case aL => have := HL.out; simp; omega); (case aR => exact hC); (case aO => exact HO.out.far hl_); intro v2 w2 ho hg hat; clear HO; have HO := Aside0.mk ho; clear ho hl_ hC hg hat) | ((with_reducible refine gate_dst (N := 50) rfl ?_); refine lit_ints (k := .u8) (e := 5) ?hg (N := 50) ?hd [v % 256] #[.int .u8 (v % 256)] ?hr ?hi ?hm ?_; (case hd => rfl); (case hg => rfl); (case hr => first | (go_simp; done) | (go_simp; rfl)); (case hi => rfl); (case hm => simp); intro B w1 hC hB_; have hl_ := hB_.bel; clear hB_) | ((with_reducible refine gate_builtin (b := .append) (xs := #[.tmp 47, .tmp 50]) rfl ?_); at_builtin; refine app_ints (k := .u8) (w0 := w) rfl (.tmp 47) (.tmp 50) 22 1 rfl Try.underlying22 info8 (by decide) (by decide) _ (xs ++ [v / 256 % 256]) [v % 256] _ _ _ rfl rfl rfl ?aO ?aR ?aL ?_; (case aL => have := HL.out; simp; omega); (case aR => exact hC); (case aO => exact HO.out.far hl_); intro v2 w2 ho hg hat; clear HO; have HO := Aside0.mk ho; clear ho hl_ hC hg hat))
  go_ret2
  exact ⟨_, rfl, by simpa [putB] using HO.out⟩
theorem put_ok4 {v : Int} (h0 : 0 ≤ v) (h1 : v < 4294967296) {A : Option Addr} {c : Nat} {xs : List Int} {w : World} (h : CI .u8 w A c xs) (hl : xs.length ≤ 900) :
    Calls Try.prog 19 #[.slice A xs.length c, .int .i64 4, .int .i64 v] w fun e w' => ∃ r, e = .returned (.tuple #[r, .int .i64 0]) ∧ OI .u8 5 w w' r (xs ++ putB 4 v) := by
  have H := Aside0.mk h
  have HL := Aside0.mk hl
  have hb : (lim 4 != 0) = true := rfl
  have hd : decide (v < 0) = false := decide_eq_false (by omega)
  have hd2 : decide (0 < v / 4294967296) = false := decide_eq_false (by omega)
  clear h hl h0 h1
  go_enter Try.func19, Try.ntmps19
  go_wp2_with (first | (go_at_call 29; refine (is_any _ _).mono ?_; rintro e w' ⟨rfl, rfl⟩; rw [hb]) | (go_at_call 27; refine (clone_any H.out (Nat.le_trans HL.out (by decide))).mono ?_; rintro e w' ⟨v0, rfl, ho⟩; have HO := Aside0.mk ho; clear ho) | ((with_reducible refine gate_dst (N := 39) rfl ?_); refine lit_ints (k := .u8) (e := 5) ?hg (N := 39) ?hd [v / 16777216 % 256, v / 65536 % 256] #[.int .u8 (v / 16777216 % 256), .int .u8 (v / 65536 % 256)] ?hr ?hi ?hm ?_; (case hd => rfl); (case hg => rfl); (case hr => first | (go_simp; done) | (go_simp; rfl)); (case hi => rfl); (case hm => simp); intro B w1 hC hB_; have hl_ := hB_.bel; clear hB_) | ((with_reducible refine gate_builtin (b := .append) (xs := #[.tmp 32, .tmp 39]) rfl ?_); at_builtin; refine app_ints (k := .u8) (w0 := w) rfl (.tmp 32) (.tmp 39) 22 1 rfl Try.underlying22 info8 (by decide) (by decide) _ xs [v / 16777216 % 256, v / 65536 % 256] _ _ _ rfl rfl rfl ?aO ?aR ?aL ?_; (case aL => have := HL.out; simp; omega); (case aR => exact hC); (case aO => exact HO.out.far hl_); intro v2 w2 ho hg hat; clear HO; have HO := Aside0.mk ho; clear ho hl_ hC hg hat) | ((with_reducible refine gate_dst (N := 45) rfl ?_); refine lit_ints (k := .u8) (e := 5) ?hg (N := 45) ?hd [v / 256 % 256] #[.int .u8 (v / 256 % 256)] ?hr ?hi ?hm ?_; (case hd => rfl); (case hg => rfl); (case hr => first | (go_simp; done) | (go_simp; rfl)); (case hi => rfl); (case hm => simp); intro B w1 hC hB_; have hl_ := hB_.bel; clear hB_) | ((with_reducible refine gate_builtin (b := .append) (xs := #[.tmp 41, .tmp 45]) rfl ?_); at_builtin; refine app_ints (k := .u8) (w0 := w) rfl (.tmp 41) (.tmp 45) 22 1 rfl Try.underlying22 info8 (by decide) (by decide) _ (xs ++ [v / 16777216 % 256, v / 65536 % 256]) [v / 256 % 256] _ _ _ rfl rfl rfl ?aO ?aR ?aL ?_; (case aL => have := HL.out; simp; omega); (case aR => exact hC); (case aO => exact HO.out.far hl_); intro v2 w2 ho hg hat; clear HO; have HO := Aside0.mk ho; clear ho hl_ hC hg hat) | ((with_reducible refine gate_dst (N := 50) rfl ?_); refine lit_ints (k := .u8) (e := 5) ?hg (N := 50) ?hd [v % 256] #[.int .u8 (v % 256)] ?hr ?hi ?hm ?_; (case hd => rfl); (case hg => rfl); (case hr => first | (go_simp; done) | (go_simp; rfl)); (case hi => rfl); (case hm => simp); intro B w1 hC hB_; have hl_ := hB_.bel; clear hB_) | ((with_reducible refine gate_builtin (b := .append) (xs := #[.tmp 47, .tmp 50]) rfl ?_); at_builtin; refine app_ints (k := .u8) (w0 := w) rfl (.tmp 47) (.tmp 50) 22 1 rfl Try.underlying22 info8 (by decide) (by decide) _ ((xs ++ [v / 16777216 % 256, v / 65536 % 256]) ++ [v / 256 % 256]) [v % 256] _ _ _ rfl rfl rfl ?aO ?aR ?aL ?_; (case aL => have := HL.out; simp; omega); (case aR => exact hC); (case aO => exact HO.out.far hl_); intro v2 w2 ho hg hat; clear HO; have HO := Aside0.mk ho; clear ho hl_ hC hg hat))
  go_ret2
  exact ⟨_, rfl, by simpa [putB] using HO.out⟩
theorem putE_ok {n v : Int} (h : putE n v = 0) : (n = 1 ∧ 0 ≤ v ∧ v < 256) ∨ (n = 2 ∧ 0 ≤ v ∧ v < 65536) ∨ (n = 4 ∧ 0 ≤ v ∧ v < 4294967296) := by
  unfold putE at h
  split at h
  · exact absurd h (by decide)
  · rename_i hl
    split at h
    · exact absurd h (by decide)
    · rename_i hv
      rcases lim_of hl with rfl | rfl | rfl
      · have e : lim 1 = 256 := rfl
        rw [e] at hv
        exact .inl ⟨rfl, by omega, by omega⟩
      · have e : lim 2 = 65536 := rfl
        rw [e] at hv
        exact .inr (.inl ⟨rfl, by omega, by omega⟩)
      · have e : lim 4 = 4294967296 := rfl
        rw [e] at hv
        exact .inr (.inr ⟨rfl, by omega, by omega⟩)
theorem put_ok {n v : Int} (h : putE n v = 0) {A : Option Addr} {c : Nat} {xs : List Int} {w : World} (hc : CI .u8 w A c xs) (hl : xs.length ≤ 900) :
    Calls Try.prog 19 #[.slice A xs.length c, .int .i64 n, .int .i64 v] w fun e w' => ∃ r, e = .returned (.tuple #[r, .int .i64 0]) ∧ OI .u8 5 w w' r (xs ++ putB n v) := by
  rcases putE_ok h with ⟨rfl, h0, h1⟩ | ⟨rfl, h0, h1⟩ | ⟨rfl, h0, h1⟩
  · exact put_ok1 h0 h1 hc hl
  · exact put_ok2 h0 h1 hc hl
  · exact put_ok4 h0 h1 hc hl
end Go.Proofs.Ytjgianmcllkagaa.Wi
