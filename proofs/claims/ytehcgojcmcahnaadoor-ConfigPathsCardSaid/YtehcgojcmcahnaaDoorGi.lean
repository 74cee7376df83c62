/- Layer 4 (config): config.Into. -/
import Derived.Test.YtehcgojcmcahnaaDoorGx
import Derived.Test.YtehcgojcmcahnaaDoorCfM2
set_option linter.unusedVariables false
set_option linter.unusedSimpArgs false
namespace Go.Proofs.YtehcgojcmcahnaaDoor.Cf
open Go.RowKit Go.Proofs.YtehcgojcmcahnaaDoorW.PrintWords Go.Proofs.YtehcgojcmcahnaaDoorW.PrintLast Go.Proofs.YtehcgojcmcahnaaDoorW.PrintMore Go.Proofs.YtehcgojcmcahnaaDoor.Cz Go.Proofs.YtehcgojcmcahnaaDoor.PConfigSame
attribute [local go_sem] max2_int min2_int max_two min_two max_three min_three max_four min_four Tryd.underlying26 Tryd.underlying35
/-- Those of the first m numbers of which P is true. -/
def il (P : Int → Bool) : Nat → List Int
  | 0 => []
  | m + 1 => il P m ++ (if P m = true then [(m : Int)] else [])
theorem il_len (P : Int → Bool) : ∀ m, (il P m).length ≤ m
  | 0 => Nat.le_refl _
  | m + 1 => by
    have := il_len P m
    unfold il
    rw [List.length_append]
    split <;> simp <;> omega
theorem il_yes {P : Int → Bool} {m : Nat} (h : P m = true) : il P (m + 1) = il P m ++ [(m : Int)] := by
  show il P m ++ (if P m = true then [(m : Int)] else []) = _
  rw [if_pos h]
theorem il_no {P : Int → Bool} {m : Nat} (h : P m = false) : il P (m + 1) = il P m := by
  show il P m ++ (if P m = true then [(m : Int)] else []) = _
  rw [h, if_neg (by decide), List.append_nil]
theorem il_le {P : Int → Bool} : ∀ {j m : Nat}, j ≤ m → (il P j).length ≤ (il P m).length
  | j, 0, h => by
    obtain rfl : j = 0 := by omega
    exact Nat.le_refl _
  | j, m + 1, h => by
    by_cases hj : j = m + 1
    · subst hj
      exact Nat.le_refl _
    · have := il_le (P := P) (j := j) (m := m) (by omega)
      show _ ≤ (il P m ++ _).length
      rw [List.length_append]
      omega
theorem il_get {P : Int → Bool} : ∀ {j m : Nat}, j < m → P j = true → (il P m)[(il P j).length]? = some (j : Int)
  | j, 0, h, _ => by omega
  | j, m + 1, h, hp => by
    by_cases hj : j = m
    · subst hj
      rw [il_yes hp, List.getElem?_append_right (Nat.le_refl _)]
      simp
    · have h1 := il_get (P := P) (j := j) (m := m) (by omega) hp
      have h2 : (il P j).length < (il P m).length := (List.getElem?_eq_some_iff.1 h1).1
      show (il P m ++ _)[_]? = _
      rw [List.getElem?_append_left h2]
      exact h1
theorem il_end {P : Int → Bool} {p : Nat} (h : ∀ j : Nat, p ≤ j → P j = false) : ∀ {m : Nat}, p ≤ m → il P m = il P p
  | 0, hm => by
    obtain rfl : p = 0 := by omega
    rfl
  | m + 1, hm => by
    by_cases hj : p = m + 1
    · subst hj
      rfl
    · rw [il_no (h m (by omega))]
      exact il_end h (by omega)
theorem il_small {P : Int → Bool} : ∀ {m : Nat} {x : Int}, x ∈ il P m → 0 ≤ x ∧ x < m
  | 0, x, h => by cases h
  | m + 1, x, h => by
    rcases List.mem_append.1 h with h | h
    · have := il_small h
      omega
    · split at h
      · rw [List.mem_singleton.1 h]
        omega
      · cases h
/-- Into's memory. -/
structure IS (w0 W : World) (gb : Nat) (v : Value) (q : List Int) (cfg : Array Value) : Prop where
  bg : W.heap[gb]? = some (.cells cfg 26 (0, 0))
  ok : OK (Kd.int .i64) 3 w0 W v q
theorem IS.far {w0 W W' : World} {gb : Nat} {v : Value} {q : List Int} {cfg : Array Value} (h : IS w0 W gb v q cfg) (hb : Below W.heap.size W W') : IS w0 W' gb v q cfg := ⟨blk_below h.bg hb, h.ok.far hb⟩
set_option maxHeartbeats 16000000 in
set_option maxRecDepth 100000 in
theorem into_any {C : Cfg} {A2 A3 A4 : Option Addr} {c2 c3 c4 : Nat} {w : World} (h : CX w C A2 c2 A3 c3 A4 c4) (hg : LG w) (hk : C.ks.length ≤ 1000) (ha : C.ac.length ≤ 1000) (hw : C.ws.length ≤ 1000) (b : Int) :
    Calls Tryd.prog 18 #[.agg #[.int .i64 C.p, .int .i64 C.f, .slice A2 C.ws.length c2, .slice A3 C.ks.length c3, .slice A4 C.ac.length c4], .int .i64 b] w fun e w' => ∃ v, e = .returned v ∧ OK (Kd.int .i64) 3 w w' v (il (fun a => pathB C a b) 4) := by
  have HX := Aside0.mk h
  have HG := Aside0.mk hg
  have HP := Aside0.mk (fun w1 (hb1 : Below w.heap.size w w1) a => path_any (h.below hb1) (hg.below hb1) hk ha hw a b)
  have I1 : IS w (w.alloc (.cells #[.int .i64 C.p, .int .i64 C.f, .slice A2 C.ws.length c2, .slice A3 C.ks.length c3, .slice A4 C.ac.length c4] 26)) w.heap.size (.slice none 0 0) (il (fun a => pathB C a b) 0) #[.int .i64 C.p, .int .i64 C.f, .slice A2 C.ws.length c2, .slice A3 C.ks.length c3, .slice A4 C.ac.length c4] :=
    ⟨blk_new _ _, Kd.R_nil _ _ _ _ _, below_alloc (Below.refl _ _) _⟩
  clear h hg
  replace I1 := Aside0.mk I1
  obtain ⟨P, hP⟩ : ∃ P, P = (fun a => pathB C a b) := ⟨_, rfl⟩
  have HP' : ∀ a, pathB C a b = P a := fun a => by rw [hP]
  rw [← hP] at I1 ⊢
  replace HP' := Aside0.mk HP'
  clear hP
  go_enter Tryd.func18, Tryd.ntmps18
  go_wp2
  go_loopw [5, 7] (fun v5 v7 wr => ∃ j : Nat, v7 = .int .i64 j ∧ j ≤ 4 ∧ Aside0 (IS w wr w.heap.size v5 (il P j) #[.int .i64 C.p, .int .i64 C.f, .slice A2 C.ws.length c2, .slice A3 C.ks.length c3, .slice A4 C.ac.length c4])) (fun _ v7 _ => 5 - (intOf v7).toNat)
  case atStart => exact ⟨0, rfl, by omega, I1⟩
  case round =>
    clear I1
    rename_i gv5 gv7
    obtain ⟨j, rfl, hj, HI⟩ := hrel
    have b0 := (blk_cell HI.out.bg 0).trans (show _ = some (.int .i64 C.p) from rfl)
    have b1 := (blk_cell HI.out.bg 1).trans (show _ = some (.int .i64 C.f) from rfl)
    have b2 := (blk_cell HI.out.bg 2).trans (show _ = some (.slice A2 C.ws.length c2) from rfl)
    have b3 := (blk_cell HI.out.bg 3).trans (show _ = some (.slice A3 C.ks.length c3) from rfl)
    have b4 := (blk_cell HI.out.bg 4).trans (show _ = some (.slice A4 C.ac.length c4) from rfl)
    by_cases hlt : (j : Int) < 4
    · have d1 : decide ((j : Int) < 4) = true := decide_eq_true hlt
      have d1n : decide (j < 4) = true := decide_eq_true (by omega)
      have hll := il_len P j
      cases hq : P (j : Int)
      · have hpq := (HP'.out j).trans hq
        go_wp2_with (first | (go_at_call 15; refine (HP.out _ HI.out.ok.bel _).mono ?_; rintro e w2 ⟨rfl, hb⟩; have HI2 := Aside0.mk (HI.out.far hb); clear hb))
        go_roundw
        case rel => exact ⟨j + 1, by go_num, by omega, by rw [il_no hq]; exact HI2⟩
        case measure => simp [intOf]; omega
      · have hpq := (HP'.out j).trans hq
        go_wp2_with (first | (go_at_call 15; refine (HP.out _ HI.out.ok.bel _).mono ?_; rintro e w2 ⟨rfl, hb⟩; have HI2 := Aside0.mk (HI.out.far hb); clear hb) | ((with_reducible refine gate_builtin (b := .append) (xs := #[.tmp 14, .tmp 16]) rfl ?_); at_builtin; refine Kd.R_append (Kd.int .i64) (w0 := w) w.heap.size rfl (.tmp 14) (.tmp 16) 24 3 (.int .i64 0) 8 rfl Tryd.underlying24 info3 rfl (by decide) (by omega) _ (il P j) (j : Int) [.int .i64 j] (fun k => w.heap.size ≤ k) (fun _ => False) rfl rfl ?aP (fun _ hk => hk.elim) ?aF HI2.out.ok.r HI2.out.ok.bel ?aS ?aL ?_; (case aP => exact rfl); (case aF => exact (fun k hk => Nat.le_trans HI2.out.ok.bel.size hk)); (case aS => exact HI2.out.ok.bel.size); (case aL => omega); intro v9 w9 ho hb hg9 hat; have HI9 : Aside0 (IS w w9 w.heap.size v9 (il P j ++ [(j : Int)]) _) := ⟨blk_grown HI2.out.bg hg9 (Kd.R_ne HI2.out.ok.r HI2.out.bg (by decide)), ho, hb⟩; clear ho hb hg9 hat))
        go_roundw
        case rel => exact ⟨j + 1, by go_num, by omega, by rw [il_yes hq]; exact HI9⟩
        case measure => simp [intOf]; omega
    · have d1 : decide ((j : Int) < 4) = false := decide_eq_false hlt
      have d1n : decide (j < 4) = false := decide_eq_false (by omega)
      obtain rfl : j = 4 := by omega
      go_wp2
      go_ret
      exact ⟨_, rfl, HI.out.ok⟩
end Go.Proofs.YtehcgojcmcahnaaDoor.Cf
