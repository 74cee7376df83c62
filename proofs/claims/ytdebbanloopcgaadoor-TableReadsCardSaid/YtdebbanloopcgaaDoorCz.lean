/- Layer 4 (config): what is of no law: between, amiss, heads, the test of an action, Right's text. -/
import Derived.Test.YtdebbanloopcgaaDoorAs
set_option linter.unusedVariables false
set_option linter.unusedSimpArgs false
namespace Go.Proofs.YtdebbanloopcgaaDoor.Cz
open Go.RowKit Go.Proofs.YtdebbanloopcgaaDoorW.PrintWords Go.Proofs.YtdebbanloopcgaaDoorW.PrintLast Go.Proofs.YtdebbanloopcgaaDoorW.PrintMore
attribute [local go_sem] max2_int min2_int max_two min_two max_three min_three max_four min_four Tryd.underlying26 Tryd.underlying48 Tryd.underlying83
/-- The laid variable of package errors. -/
def LG (W : World) : Prop := W.cell? ⟨0, 0, none⟩ = some (.iface 127 (.agg #[.pointer (some ⟨1, 77, none⟩)]))
theorem LG.below {W W' : World} (h : LG W) (hb : Below W.heap.size W W') : LG W' := by
  have h0 := World.block_lt_of_cell? _ _ h
  exact (hb.cell (p := ⟨0, 0, none⟩) h0).trans h
/-- A fault's block. -/
def FB (W : World) (g : Nat) (a b : Int) : Prop := W.heap[g]? = some (.cells #[.int .i64 a, .int .i64 b] 83 (0, 0))
def btw (a b c : Int) : Bool := decide (b ≤ a ∧ a ≤ c)
theorem btw_true {a b c : Int} (h : btw a b c = true) : b ≤ a ∧ a ≤ c := of_decide_eq_true h
theorem btw_false {a b c : Int} (h : btw a b c = false) : ¬ (b ≤ a ∧ a ≤ c) := of_decide_eq_false h
theorem between_any (a b c : Int) (w : World) : Calls Tryd.prog 60 #[.int .i64 a, .int .i64 b, .int .i64 c] w fun e w' => e = .returned (.bool (btw a b c)) ∧ w = w' := by
  by_cases h : b ≤ a
  · have e : btw a b c = decide (a ≤ c) := by unfold btw; simp [h]
    have d : decide (b ≤ a) = true := decide_eq_true h
    rw [e]
    clear h e
    go_enter Tryd.func60, Tryd.ntmps60
    go_wp2
    go_ret
    exact ⟨rfl, rfl⟩
  · have e : btw a b c = false := by unfold btw; simp [h]
    have d : decide (b ≤ a) = false := decide_eq_false h
    rw [e]
    clear h e
    go_enter Tryd.func60, Tryd.ntmps60
    go_wp2
    go_ret
    exact ⟨rfl, rfl⟩
theorem amiss_any (a b : Int) (w : World) : Calls Tryd.prog 61 #[.int .i64 a, .int .i64 b] w fun e w' => ∃ g, e = .returned (.iface 79 (.pointer (some ⟨g, 0, none⟩))) ∧ FB w' g a b ∧ Below w.heap.size w w' := by
  go_enter Tryd.func61, Tryd.ntmps61
  go_wp2
  go_ret
  exact ⟨_, rfl, blk_new _ _, below_alloc (Below.refl _ _) _⟩
def hd (p f n : Int) : Option (Int × Int) := if btw p 1 4 = false then some (1, 0) else if btw f 1 64 = false then some (2, 0) else if btw n 1 8 = false then some (3, -1) else none
def Fres (w w' : World) (o : Option (Int × Int)) (e : Ending) : Prop := Below w.heap.size w w' ∧ match o with
  | none => e = .returned .nilIface
  | some x => ∃ g, e = .returned (.iface 79 (.pointer (some ⟨g, 0, none⟩))) ∧ FB w' g x.1 x.2
theorem heads_any (p f : Int) (A2 A3 A4 : Option Addr) (n2 n3 n4 c2 c3 c4 : Nat) (w : World) :
    Calls Tryd.prog 43 #[.agg #[.int .i64 p, .int .i64 f, .slice A2 n2 c2, .slice A3 n3 c3, .slice A4 n4 c4]] w fun e w' => Fres w w' (hd p f n2) e := by
  unfold hd
  cases h1 : btw p 1 4
  · simp only [if_true]
    go_enter Tryd.func43, Tryd.ntmps43
    go_wp2_with (first | (go_at_call 60; refine (between_any _ _ _ _).mono ?_; rintro e w' ⟨rfl, rfl⟩) | (go_at_call 61; refine (amiss_any _ _ _).mono ?_; rintro e w1 ⟨g, rfl, hg, hb⟩))
    go_ret
    exact ⟨below_step (below_alloc (Below.refl _ _) _) hb, g, rfl, hg⟩
  · cases h2 : btw f 1 64
    · simp only [if_true, Bool.true_eq_false, if_false]
      go_enter Tryd.func43, Tryd.ntmps43
      go_wp2_with (first | (go_at_call 60; refine (between_any _ _ _ _).mono ?_; rintro e w' ⟨rfl, rfl⟩) | (go_at_call 61; refine (amiss_any _ _ _).mono ?_; rintro e w1 ⟨g, rfl, hg, hb⟩))
      go_ret
      exact ⟨below_step (below_alloc (Below.refl _ _) _) hb, g, rfl, hg⟩
    · cases h3 : btw (n2 : Int) 1 8
      · simp only [if_true, Bool.true_eq_false, if_false]
        go_enter Tryd.func43, Tryd.ntmps43
        go_wp2_with (first | (go_at_call 60; refine (between_any _ _ _ _).mono ?_; rintro e w' ⟨rfl, rfl⟩) | (go_at_call 61; refine (amiss_any _ _ _).mono ?_; rintro e w1 ⟨g, rfl, hg, hb⟩))
        go_ret
        exact ⟨below_step (below_alloc (Below.refl _ _) _) hb, g, rfl, hg⟩
      · simp only [Bool.true_eq_false, if_false]
        go_enter Tryd.func43, Tryd.ntmps43
        go_wp2_with (first | (go_at_call 60; refine (between_any _ _ _ _).mono ?_; rintro e w' ⟨rfl, rfl⟩))
        go_ret
        exact ⟨below_alloc (Below.refl _ _) _, rfl⟩
def findI {α : Type} (q : α → Bool) : List α → Nat → Int
  | [], _ => -1
  | x :: t, i => if q x then (i : Int) else findI q t (i + 1)
theorem act_any (n : Int) (w : World) : Calls Tryd.prog 66 #[.int .i64 n] w fun e w' => e = .returned (.bool (!btw n 0 2)) ∧ w = w' := by
  go_enter Tryd.func66, Tryd.ntmps66
  go_wp2_with (first | (go_at_call 60; refine (between_any _ _ _ _).mono ?_; rintro e w' ⟨rfl, rfl⟩))
  go_ret
  exact ⟨rfl, rfl⟩
theorem findI_step {α : Type} (q : α → Bool) (xs : List α) (j : Nat) (h : j < xs.length) : findI q (xs.drop j) j = if q xs[j] then (j : Int) else findI q (xs.drop (j + 1)) (j + 1) := by
  rw [List.drop_eq_getElem_cons h]
  rfl
theorem rd_get {xs : List Int} {j : Nat} (h : j < xs.length) : rd xs (j : Int) = xs[j] := by simp [rd, h]
theorem idxA_any {A : Option Addr} {c : Nat} {xs : List Int} {w : World} (h : Kd.C (Kd.int .i64) w A xs.length xs) (hl : xs.length ≤ 1000000) :
    Calls Tryd.prog 65 #[.slice A xs.length c, .func (.func 66) #[] #[]] w fun e w' => e = .returned (.int .i64 (findI (fun n => !btw n 0 2) xs 0)) ∧ w = w' := by
  have H := Aside0.mk h
  clear h
  go_enter Tryd.func65, Tryd.ntmps65
  go_wp2
  go_loopw [8] (fun v8 wr => ∃ j : Nat, j ≤ xs.length ∧ v8 = .int .i64 j ∧ Aside0 (w = wr) ∧ Aside0 (findI (fun n => !btw n 0 2) xs 0 = findI (fun n => !btw n 0 2) (xs.drop j) j)) (fun v8 _ => xs.length - (intOf v8).toNat)
  case atStart => exact ⟨0, by omega, rfl, ⟨rfl⟩, ⟨rfl⟩⟩
  case round =>
    obtain ⟨j, hj, rfl, HWW, HF⟩ := hrel
    obtain rfl := HWW.out
    clear HWW
    by_cases hlt : j < xs.length
    · obtain ⟨ad, rfl, hcell0⟩ := Kd.at_int H.out (j : Int) (by omega) (by omega)
      have hcell : w.cell? (ad.add j) = some (.int .i64 (rd xs j)) := hcell0
      clear hcell0
      have hst := findI_step (fun n => !btw n 0 2) xs j hlt
      rw [rd_get hlt] at hcell
      rw [← HF.out] at hst
      have HS := Aside0.mk hst
      clear hst HF
      generalize xs[j] = x at hcell HS
      have hj0 : 0 ≤ (j : Int) := by omega
      have hj1 : (j : Int) < xs.length := by omega
      cases hq : btw x 0 2
      · go_wp2_with (first | (go_at_call 66; refine (act_any _ _).mono ?_; rintro e w' ⟨rfl, rfl⟩))
        go_ret
        refine ⟨?_, rfl⟩
        rw [HS.out]
        simp [hq]
      · go_wp2_with (first | (go_at_call 66; refine (act_any _ _).mono ?_; rintro e w' ⟨rfl, rfl⟩))
        go_roundw
        case rel => exact ⟨j + 1, by omega, by go_num, ⟨by first | rfl | trivial⟩, ⟨by rw [HS.out]; simp [hq]⟩⟩
        case measure => simp [intOf]; omega
    · have hd : decide ((j : Int) < (xs.length : Int)) = false := decide_eq_false (by omega)
      have hdn : decide (j < xs.length) = false := decide_eq_false hlt
      obtain rfl : j = xs.length := by omega
      rw [List.drop_length] at HF
      go_wp2
      go_ret
      exact ⟨by rw [HF.out]; rfl, rfl⟩
end Go.Proofs.YtdebbanloopcgaaDoor.Cz
