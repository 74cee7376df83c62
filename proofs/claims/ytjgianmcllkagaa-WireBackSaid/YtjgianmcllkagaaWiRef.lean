/- Layer 3 (wire): the document's Put and Seal; Seal of the program. -/
import Derived.Test.YtjgianmcllkagaaWiPut
set_option linter.unusedVariables false
set_option linter.unusedSimpArgs false
namespace Go.Proofs.Ytjgianmcllkagaa.Wi
open Go.RowKit Go.Proofs.YtjgianmcllkagaaW.PrintWords Go.Proofs.YtjgianmcllkagaaW.PrintLast Go.Proofs.YtjgianmcllkagaaW.PrintMore
attribute [local go_sem] max2_int min2_int max_two min_two max_three min_three max_four min_four
theorem OI.past {k k' : IntKind} {e e' : TypeId} {w0 W W1 W2 : World} {v B : Value} {xs ys : List Int} (h : OI k e w0 W v xs) (hB : OI k' e' W W1 B ys) (hg : W1.grownBy W2 B.ownBlock) : OI k e w0 W2 v xs := by
  refine (h.far hB.bel).grown hg (fun b hb => Nat.le_trans h.bel.size (hB.typed b hb).1) (fun b hb e => ?_)
  obtain ⟨_, cells, hc⟩ := h.typed b e
  have h1 := (hB.typed b hb).1
  have h2 := blk_lt hc
  omega
/-- The last k bytes of v, the greatest first. -/
def lowB : Nat → Int → List Int
  | 0, _ => []
  | k + 1, v => (v / 256 ^ k) % 256 :: lowB k v
theorem lowB_len : ∀ k v, (lowB k v).length = k
  | 0, _ => rfl
  | k + 1, v => by simp [lowB, lowB_len k v]
theorem lowB1 (v : Int) : lowB 1 v = putB 1 v := by simp [lowB, putB]
theorem lowB2 (v : Int) : lowB 2 v = putB 2 v := by simp [lowB, putB]
theorem lowB4 (v : Int) : lowB 4 v = putB 4 v := by simp [lowB, putB]
theorem pow_step (v : Int) (k : Nat) : v / 256 ^ k / 256 = v / 256 ^ (k + 1) := by
  rw [Int.pow_succ, Int.ediv_ediv_of_nonneg (by exact Int.pow_nonneg (by decide))]
theorem rPut_bad {n v : Int} (h : putE n v ≠ 0) (A : Option Addr) (m c : Nat) (w : World) :
    Calls Try.prog 20 #[.slice A m c, .int .i64 n, .int .i64 v] w fun e w' => e = .returned (.tuple #[.slice A m c, .int .i64 (putE n v)]) ∧ w = w' := by
  have M : ∀ w, Calls Try.prog 28 #[.int .i64 n] w fun e w' => e = .returned (.int .i64 (lim n)) ∧ w = w' := most_any n
  by_cases hl : lim n = 0
  · have e : putE n v = 8 := by unfold putE; rw [if_pos hl]
    rw [hl] at M
    have M := Aside0.mk M
    rw [e]
    clear h hl e
    go_enter Try.func20, Try.ntmps20
    go_wp2_with (first | (go_at_call 28; refine (M.out _).mono ?_; rintro e w' ⟨rfl, rfl⟩))
    go_ret2
    exact ⟨rfl, rfl⟩
  · have hv : v < 0 ∨ lim n ≤ v := by
      unfold putE at h
      rw [if_neg hl] at h
      split at h
      · assumption
      · exact absurd rfl h
    have e : putE n v = 7 := by
      unfold putE
      rw [if_neg hl, if_pos hv]
    have hb : (lim n == 0) = false := beq_eq_false_iff_ne.mpr hl
    rw [e]
    clear h e hl
    revert M hb hv
    generalize lim n = L
    intro M hv hb
    replace M := Aside0.mk M
    by_cases hv0 : v < 0
    · have hd : decide (v < 0) = true := decide_eq_true hv0
      clear hv hv0
      go_enter Try.func20, Try.ntmps20
      go_wp2_with (first | (go_at_call 28; refine (M.out _).mono ?_; rintro e w' ⟨rfl, rfl⟩))
      go_ret2
      exact ⟨rfl, rfl⟩
    · have hd : decide (v < 0) = false := decide_eq_false hv0
      have hv1 : L ≤ v := by omega
      have hd1 : decide (L ≤ v) = true := decide_eq_true hv1
      clear hv hv0 hv1
      go_enter Try.func20, Try.ntmps20
      go_wp2_with (first | (go_at_call 28; refine (M.out _).mono ?_; rintro e w' ⟨rfl, rfl⟩))
      go_ret2
      exact ⟨rfl, rfl⟩
theorem rPut_n {n : Nat} {L v : Int} (hL : lim n = L) (hn0 : L ≠ 0) (h0 : 0 ≤ v) (h1 : v < L) (hb4 : L ≤ 4294967296) (hn : n ≤ 4) {A : Option Addr} {c : Nat} {xs : List Int} {w : World} (h : CI .u8 w A c xs) (hl : xs.length ≤ 900) :
    Calls Try.prog 20 #[.slice A xs.length c, .int .i64 n, .int .i64 v] w fun e w' => ∃ r, e = .returned (.tuple #[r, .int .i64 0]) ∧ OI .u8 5 w w' r (xs ++ lowB n v) := by
  have H := Aside0.mk h
  have HL := Aside0.mk hl
  have M : ∀ w, Calls Try.prog 28 #[.int .i64 n] w fun e w' => e = .returned (.int .i64 L) ∧ w = w' := by rw [← hL]; exact most_any n
  have M := Aside0.mk M
  have hb : (L == 0) = false := beq_eq_false_iff_ne.mpr hn0
  have hd : decide (v < 0) = false := decide_eq_false (by omega)
  have hd1 : decide (L ≤ v) = false := decide_eq_false (by omega)
  have HV : Aside0 (0 ≤ v ∧ v < 4294967296) := ⟨h0, by omega⟩
  clear h hl h0 h1 hn0 hb4 hL
  go_enter Try.func20, Try.ntmps20
  go_wp2_with (first | (go_at_call 28; refine (M.out _).mono ?_; rintro e w' ⟨rfl, rfl⟩) | ((with_reducible refine gate_builtin (b := .append) (xs := #[.tmp 24, .tmp 25]) rfl ?_); at_builtin; refine app_ints (k := .u8) (w0 := w) rfl (.tmp 24) (.tmp 25) 22 1 rfl Try.underlying22 info8 (by decide) (by decide) _ [] xs _ _ _ rfl rfl rfl ?aO ?aR ?aL ?_; (case aL => have := HL.out; simp; omega); (case aR => exact H.out); (case aO => exact OI.nil _ _ (Below.refl _ _)); intro v2 w2 ho hg hat; clear hg hat; have HO := Aside0.mk ho; clear ho))
  rw [List.nil_append] at HO
  go_loopw [2, 9, 10] (fun x9 x10 x11 wr => ∃ (k : Nat) (r : Value), k ≤ n ∧ x9 = .int .i64 (v / 256 ^ k) ∧ x10 = r ∧ x11 = .int .i64 k ∧ Aside0 (OI .u8 5 w wr v2 xs ∧ OI .u8 5 w wr r (lowB k v))) (fun _ _ x11 _ => n - (intOf x11).toNat)
  case atStart => exact ⟨0, .slice none 0 0, by omega, by simp, rfl, rfl, ⟨HO.out, OI.nil _ _ HO.out.bel⟩⟩
  case round =>
    obtain ⟨k, r, hk, rfl, rfl, rfl, HH⟩ := hrel
    obtain ⟨B, cB, rfl, hCB⟩ := HH.out.2.reads
    have HC := Aside0.mk hCB
    clear hCB HO
    by_cases hlt : k < n
    · have hx0 : 0 ≤ v / 256 ^ k := Int.ediv_nonneg HV.out.1 (Int.pow_nonneg (by decide))
      have hx1 : v / 256 ^ k ≤ v := Int.ediv_le_self _ HV.out.1
      have hx2 := HV.out.2
      have hs := Aside0.mk (pow_step v k)
      have hl : Aside0 (lowB (k + 1) v = v / 256 ^ k % 256 :: lowB k v) := ⟨rfl⟩
      have hdk : decide ((k : Int) < (n : Int)) = true := decide_eq_true (by omega)
      generalize hx : v / 256 ^ k = x at hx0 hx1 hs hl
      have hlow := Aside0.mk (lowB_len k v)
      generalize lowB k v = low at hl HH HC hlow
      have e1 : Int.tmod x 256 = x % 256 := Int.tmod_eq_emod_of_nonneg hx0
      have e2 : Int.tdiv x 256 = x / 256 := Int.tdiv_eq_ediv_of_nonneg hx0
      have e3 : x % 256 % 256 = x % 256 := by omega
      have e4 : wrap64 (x / 256) = x / 256 := w64 (by omega) (by omega)
      clear hx0 hx1 hx2
      go_wp2_with (first | (rw [wrap8]) | ((with_reducible refine gate_dst (N := 35) rfl ?_); refine lit_ints (k := .u8) (e := 5) ?hg (N := 35) ?hd [x % 256] #[.int .u8 (x % 256)] ?hr ?hi ?hm ?_; (case hd => rfl); (case hg => rfl); (case hr => first | (go_simp; done) | (go_simp; rfl)); (case hi => rfl); (case hm => simp); intro D w1 hC hB_; have HD := Aside0.mk hB_; clear hB_ hC) | ((with_reducible refine gate_builtin (b := .append) (xs := #[.tmp 35, .tmp 36]) rfl ?_); at_builtin; refine app_ints (k := .u8) (w0 := w) rfl (.tmp 35) (.tmp 36) 22 1 rfl Try.underlying22 info8 (by decide) (by decide) _ [x % 256] low _ _ _ rfl rfl rfl ?aO ?aR ?aL ?_; (case aL => rw [hlow.out]; simp; omega); (case aR => exact HC.out.below HD.out.bel); (case aO => exact HD.out.less HH.out.1.bel); intro v3 w3 ho hg hat; have HO := Aside0.mk ho; have HP := Aside0.mk (HH.out.1.past HD.out hg); clear ho hg hat HH HC HD))
      go_roundw
      case rel => exact ⟨k + 1, _, by omega, by rw [← hs.out, e4], rfl, by go_num, ⟨HP.out, by rw [hl.out]; exact HO.out⟩⟩
      case measure => simp [intOf]; omega
    · have hdk : decide ((k : Int) < (n : Int)) = false := decide_eq_false (by omega)
      obtain rfl : k = n := by omega
      go_wp2_with (first | ((with_reducible refine gate_builtin (b := .append) (xs := #[.tmp 40, .tmp 41]) rfl ?_); at_builtin; refine app_ints (k := .u8) (w0 := w) rfl (.tmp 40) (.tmp 41) 22 1 rfl Try.underlying22 info8 (by decide) (by decide) _ xs (lowB k v) _ _ _ rfl rfl rfl ?aO ?aR ?aL ?_; (case aL => have := HL.out; rw [lowB_len]; omega); (case aR => exact HC.out); (case aO => exact HH.out.1); intro v3 w3 ho hg hat; clear hg hat; have HO := Aside0.mk ho; clear ho))
      go_ret2
      exact ⟨_, rfl, HO.out⟩
theorem rPut_ok {n v : Int} (h : putE n v = 0) {A : Option Addr} {c : Nat} {xs : List Int} {w : World} (hc : CI .u8 w A c xs) (hl : xs.length ≤ 900) :
    Calls Try.prog 20 #[.slice A xs.length c, .int .i64 n, .int .i64 v] w fun e w' => ∃ r, e = .returned (.tuple #[r, .int .i64 0]) ∧ OI .u8 5 w w' r (xs ++ putB n v) := by
  rcases putE_ok h with ⟨rfl, h0, h1⟩ | ⟨rfl, h0, h1⟩ | ⟨rfl, h0, h1⟩
  · have := rPut_n (n := 1) (L := 256) rfl (by decide) h0 h1 (by decide) (by decide) hc hl
    rw [lowB1] at this
    exact this
  · have := rPut_n (n := 2) (L := 65536) rfl (by decide) h0 h1 (by decide) (by decide) hc hl
    rw [lowB2] at this
    exact this
  · have := rPut_n (n := 4) (L := 4294967296) rfl (by decide) h0 h1 (by decide) (by decide) hc hl
    rw [lowB4] at this
    exact this
theorem putE_sum (xs : List Int) : putE 2 (sumB xs) = 0 := by
  have h := sumB_bound xs
  unfold putE
  rw [if_neg (by decide), if_neg (by rw [show lim 2 = 65536 from rfl]; omega)]
theorem seal_any {A : Option Addr} {c : Nat} {xs : List Int} {w : World} (hc : CI .u8 w A c xs) (hf : WF xs) (hl : xs.length ≤ 900) :
    Calls Try.prog 23 #[.slice A xs.length c] w fun e w' => ∃ r, e = .returned r ∧ OI .u8 5 w w' r (xs ++ putB 2 (sumB xs)) := by
  have HS := Aside0.mk (sum_any hc hf (Nat.le_trans hl (by decide)))
  have HP := Aside0.mk (put_ok (putE_sum xs) hc hl)
  clear hc hf hl
  go_enter Try.func23, Try.ntmps23
  go_wp2_with (first | (go_at_call 21; refine HS.out.mono ?_; clear HS; rintro e w' ⟨rfl, rfl⟩) | (go_at_call 19; refine HP.out.mono ?_; clear HP; rintro e w' ⟨r, rfl, ho⟩; have HO := Aside0.mk ho; clear ho))
  go_ret
  exact ⟨_, rfl, HO.out⟩
theorem rSeal_any {A : Option Addr} {c : Nat} {xs : List Int} {w : World} (hc : CI .u8 w A c xs) (hf : WF xs) (hl : xs.length ≤ 900) :
    Calls Try.prog 24 #[.slice A xs.length c] w fun e w' => ∃ r, e = .returned r ∧ OI .u8 5 w w' r (xs ++ putB 2 (sumB xs)) := by
  have HS := Aside0.mk (rSum_any hc hf (Nat.le_trans hl (by decide)))
  have HP := Aside0.mk (rPut_ok (putE_sum xs) hc hl)
  clear hc hf hl
  go_enter Try.func24, Try.ntmps24
  go_wp2_with (first | (go_at_call 22; refine HS.out.mono ?_; clear HS; rintro e w' ⟨rfl, rfl⟩) | (go_at_call 20; refine HP.out.mono ?_; clear HP; rintro e w' ⟨r, rfl, ho⟩; have HO := Aside0.mk ho; clear ho))
  go_ret
  exact ⟨_, rfl, HO.out⟩
end Go.Proofs.Ytjgianmcllkagaa.Wi
