/- Layer 4 (config): the document's Path, Into and Same, as printed, in plain words. -/
import Derived.Test.YtehcgojcmcahnaaDoorGx
import Derived.Test.YtehcgojcmcahnaaDoorGi
import Derived.Test.YtehcgojcmcahnaaDoorPx
import Derived.Test.YtehcgojcmcahnaaDoorPConfigSamex3
set_option linter.unusedVariables false
set_option linter.unusedSimpArgs false
namespace Go.Proofs.YtehcgojcmcahnaaDoor.Cf
open Go.RowKit Go.Proofs.YtehcgojcmcahnaaDoorW.PrintWords Go.Proofs.YtehcgojcmcahnaaDoorW.PrintLast Go.Proofs.YtehcgojcmcahnaaDoorW.PrintMore Go.Proofs.YtehcgojcmcahnaaDoor.Cz Go.Proofs.YtehcgojcmcahnaaDoor.PConfigSame
open PConfigSame (empennageref04_Path.l0 empennageref04_Path.l1 empennageref04_Path.j0 empennageref04_Into.l0 empennageref01_Same.l0)
theorem wrN (j : Nat) (h : j ≤ 100000) : wrap64 ((j : Int) + 1) = ((j + 1 : Nat) : Int) := by unfold wrap64; omega
theorem wrap_sm {n : Int} (h : -100000 ≤ n ∧ n ≤ 100000) : wrap64 n = n := by unfold wrap64; omega
theorem rdK {ks : List S35} {j : Nat} (h : j < ks.length) : rd_T35 ks (j : Int) = ks[j] := by simp [rd_T35, h]
theorem rin_f (a l h : Int) : empennageref04_in.f a l h = some (decide (l ≤ a ∧ a ≤ h)) := by
  unfold empennageref04_in.f
  by_cases h1 : a ≥ l
  · rw [if_pos h1]
    congr 1
    exact decide_eq_decide.2 (by omega)
  · rw [if_neg h1]
    congr 1
    exact (decide_eq_false (by omega)).symm
theorem may_f (C : Cfg) (k : Nat) (h2 : C.ws.length ≤ 1000) (h3 : C.ks.length ≤ 1000) (h4 : C.ac.length ≤ 1000) : empennageref04_May.f k C.p C.f C.ws C.ks C.ac = some (mayB C) := by
  unfold empennageref04_May.f
  rw [if_pos h2, if_pos h3, if_pos h4]
/-- A row of bools is S. -/
def SL (l : List Bool) (p : Nat) (S : Int → Bool) : Prop := l.length = p ∧ ∀ i : Nat, i < p → l.getD i false = S i
theorem SL.rd {l : List Bool} {p : Nat} {S : Int → Bool} (h : SL l p S) {i : Int} (hi : 0 ≤ i ∧ i < p) : rdOf false l i = S i := by
  have := h.2 i.toNat (by omega)
  rw [show ((i.toNat : Nat) : Int) = i by omega] at this
  exact this
theorem SL.set {l : List Bool} {p : Nat} {S : Int → Bool} (h : SL l p S) {k : Int} (hk : 0 ≤ k ∧ k < p) : SL (l.set k.toNat true) p (upd S k) := by
  refine ⟨by simp [h.1], fun i hi => ?_⟩
  unfold upd
  by_cases e : (i : Int) = k
  · rw [if_pos e]
    have e2 : k.toNat = i := by omega
    rw [e2]
    simp [h.1, hi]
  · rw [if_neg e, ← h.2 i hi, List.getD_eq_getElem?_getD, List.getD_eq_getElem?_getD, List.getElem?_set_ne (by omega)]
def pass : List S35 → (Int → Bool) → Int → Bool
  | [], S => S
  | x :: t, S => pass t (if S x.f1 = true then upd S x.f2 else S)
def passes (ks : List S35) : Nat → (Int → Bool) → Int → Bool
  | 0, S => S
  | m + 1, S => passes ks m (pass ks S)
theorem pass_old : ∀ {l : List S35} {S : Int → Bool} {i : Int}, S i = true → pass l S i = true
  | [], S, i, h => h
  | x :: t, S, i, h => by
    unfold pass
    refine pass_old ?_
    split
    · exact upd_old h
    · exact h
theorem pass_sound {ks : List S35} {a : Int} : ∀ {l : List S35} {S : Int → Bool}, (∀ x ∈ l, x ∈ ks) → (∀ i, S i = true → Rch ks a i) → ∀ i, pass l S i = true → Rch ks a i
  | [], S, _, h, i, hi => h i hi
  | x :: t, S, hs, h, i, hi => by
    unfold pass at hi
    refine pass_sound (fun y hy => hs y (List.mem_cons_of_mem _ hy)) (fun j hj => ?_) i hi
    by_cases h1 : S x.f1 = true
    · rw [if_pos h1] at hj
      rcases upd_inv hj with rfl | h2
      · exact .step x (h _ h1) (hs x (List.mem_cons_self ..))
      · exact h j h2
    · rw [if_neg h1] at hj
      exact h j hj
theorem upd_is {S : Int → Bool} {k : Int} (h : S k = true) : upd S k = S := by
  funext i
  unfold upd
  by_cases e : i = k
  · rw [if_pos e, e, h]
  · rw [if_neg e]
theorem pass_le : ∀ {l : List S35} {S : Int → Bool}, (∀ x ∈ l, 0 ≤ x.f2 ∧ x.f2 < 4) → uns (pass l S) ≤ uns S ∧ (uns (pass l S) = uns S → ∀ x ∈ l, S x.f1 = true → S x.f2 = true)
  | [], S, _ => ⟨Nat.le_refl _, fun _ x hx => by cases hx⟩
  | x :: t, S, h => by
    unfold pass
    have ht := fun y hy => h y (List.mem_cons_of_mem _ hy)
    have hx := h x (List.mem_cons_self ..)
    by_cases h1 : S x.f1 = true
    · rw [if_pos h1]
      cases h2 : S x.f2
      · have h3 := uns_upd hx h2
        have h4 := (pass_le (l := t) (S := upd S x.f2) ht).1
        exact ⟨by omega, fun e => by omega⟩
      · rw [upd_is h2]
        have h4 := pass_le (l := t) (S := S) ht
        refine ⟨h4.1, fun e y hy hy1 => ?_⟩
        rcases List.mem_cons.1 hy with rfl | hy
        · exact h2
        · exact h4.2 e y hy hy1
    · rw [if_neg h1]
      have h4 := pass_le (l := t) (S := S) ht
      refine ⟨h4.1, fun e y hy hy1 => ?_⟩
      rcases List.mem_cons.1 hy with rfl | hy
      · exact absurd hy1 h1
      · exact h4.2 e y hy hy1
theorem pass_is : ∀ {l : List S35} {S : Int → Bool}, (∀ x ∈ l, S x.f1 = true → S x.f2 = true) → pass l S = S
  | [], S, _ => rfl
  | x :: t, S, h => by
    unfold pass
    by_cases h1 : S x.f1 = true
    · rw [if_pos h1, upd_is (h x (List.mem_cons_self ..) h1)]
      exact pass_is fun y hy => h y (List.mem_cons_of_mem _ hy)
    · rw [if_neg h1]
      exact pass_is fun y hy => h y (List.mem_cons_of_mem _ hy)
theorem passes_is {ks : List S35} : ∀ {m : Nat} {S : Int → Bool}, (∀ x ∈ ks, S x.f1 = true → S x.f2 = true) → passes ks m S = S
  | 0, S, _ => rfl
  | m + 1, S, h => by
    unfold passes
    rw [pass_is h]
    exact passes_is h
theorem passes_end {ks : List S35} (hk : ∀ x ∈ ks, 0 ≤ x.f2 ∧ x.f2 < 4) : ∀ {m : Nat} {S : Int → Bool}, uns S < m → ∀ x ∈ ks, passes ks m S x.f1 = true → passes ks m S x.f2 = true
  | 0, S, h => by omega
  | m + 1, S, h => by
    have h1 := pass_le (S := S) hk
    by_cases e : uns (pass ks S) = uns S
    · rw [passes_is (h1.2 e)]
      exact h1.2 e
    · unfold passes
      exact passes_end hk (by omega)
theorem passes_old {ks : List S35} : ∀ {m : Nat} {S : Int → Bool} {i : Int}, S i = true → passes ks m S i = true
  | 0, S, i, h => h
  | m + 1, S, i, h => by
    unfold passes
    exact passes_old (pass_old h)
theorem passes_sound {ks : List S35} {a : Int} : ∀ {m : Nat} {S : Int → Bool}, (∀ i, S i = true → Rch ks a i) → ∀ i, passes ks m S i = true → Rch ks a i
  | 0, S, h, i, hi => h i hi
  | m + 1, S, h, i, hi => by
    unfold passes at hi
    exact passes_sound (pass_sound (fun x hx => hx) h) i hi
theorem passes_all {ks : List S35} (hk : ∀ x ∈ ks, 0 ≤ x.f2 ∧ x.f2 < 4) {a : Int} (ha : 0 ≤ a ∧ a < 4) (b : Int) : passes ks 4 (upd (fun _ => false) a) b = true ↔ Rch ks a b := by
  refine ⟨fun h => passes_sound (fun i hi => ?_) b h, fun h => ?_⟩
  · rcases upd_inv hi with rfl | h
    · exact .refl
    · cases h
  · have h1 : uns (upd (fun _ => false) a) + 1 = uns (fun _ => false) := uns_upd ha rfl
    have h2 : uns (fun _ => false) = 4 := rfl
    have hc := passes_end hk (m := 4) (S := upd (fun _ => false) a) (by omega)
    induction h with
    | refl => exact passes_old (upd_same _ _)
    | step x _ hx ih => exact hc x hx ih
section
variable (x2 f : Int) (c2 : List S33) (ac : List Int) (p : Nat) (ks : List S35)
theorem path_l1 (hk : ∀ x ∈ ks, rB p x = true) (hl : ks.length ≤ 1000) (r : Nat) (hr : r ≤ 3) : ∀ (d k j : Nat) (l : List Bool) (S : Int → Bool), ks.length = j + d → SL l p S →
    ∃ l', SL l' p (pass (ks.drop j) S) ∧ empennageref04_Path.l1 (k + d + 1) x2 l (r : Int) (j : Int) p f c2 ks ac = empennageref04_Path.l0 k x2 l' ((r + 1 : Nat) : Int) p f c2 ks ac
  | 0, k, j, l, S, h1, h2 => by
    refine ⟨l, ?_, ?_⟩
    · rw [List.drop_of_length_le (by omega)]
      exact h2
    · rw [empennageref04_Path.l1, if_neg (by omega), wrN r (by omega)]
  | d + 1, k, j, l, S, h1, h2 => by
    have hj : j < ks.length := by omega
    have hR := rB_range (hk _ (List.getElem_mem hj))
    rw [List.drop_eq_getElem_cons hj]
    rw [empennageref04_Path.l1, if_pos (by omega), if_pos (by omega), rdK hj]
    rw [if_pos hR.1.1, if_pos (by rw [h2.1]; exact hR.1.2), h2.rd hR.1, wrN j (by omega)]
    unfold pass
    by_cases hs : S ks[j].f1 = true
    · rw [if_pos hs, if_pos hs, if_pos hR.2.1.1, if_pos (by rw [h2.1]; exact hR.2.1.2)]
      exact path_l1 hk hl r hr d k (j + 1) _ _ (by omega) (h2.set hR.2.1)
    · rw [if_neg hs, if_neg hs]
      exact path_l1 hk hl r hr d k (j + 1) _ _ (by omega) h2
theorem path_l0 (hk : ∀ x ∈ ks, rB p x = true) (hl : ks.length ≤ 1000) (h2 : 0 ≤ x2 ∧ x2 < p) : ∀ (m k r : Nat) (l : List Bool) (S : Int → Bool), r + m = 4 → SL l p S →
    empennageref04_Path.l0 (k + m * (ks.length + 2) + 1) x2 l (r : Int) p f c2 ks ac = some (passes ks m S x2)
  | 0, k, r, l, S, h1, h3 => by
    rw [empennageref04_Path.l0, if_neg (by omega), if_pos h2.1, if_pos (by rw [h3.1]; exact h2.2), h3.rd h2]
    rfl
  | m + 1, k, r, l, S, h1, h3 => by
    rw [empennageref04_Path.l0, if_pos (by omega)]
    obtain ⟨l', h4, h5⟩ := path_l1 x2 f c2 ac p ks hk hl r (by omega) ks.length (k + m * (ks.length + 2) + 1) 0 l S (by omega) h3
    rw [show k + (m + 1) * (ks.length + 2) = k + m * (ks.length + 2) + 1 + ks.length + 1 by rw [Nat.add_mul]; omega]
    have h5' := h5
    rw [show ((0 : Nat) : Int) = 0 from rfl] at h5'
    rw [h5']
    exact path_l0 hk hl h2 m k (r + 1) l' _ (by omega) h4
end
theorem path_f (C : Cfg) (k : Nat) (hk : 120 ≤ k) (h2 : C.ws.length ≤ 10) (h3 : C.ks.length ≤ 10) (h4 : C.ac.length ≤ 10) (a b : Int) : empennageref04_Path.f k C.p C.f C.ws C.ks C.ac a b = some (pathB C a b) := by
  unfold empennageref04_Path.f
  rw [may_f C k (by omega) (by omega) (by omega)]
  obtain ⟨k, rfl⟩ : ∃ k', k = k' + 1 := ⟨k - 1, by omega⟩
  have hj : empennageref04_Path.j0 (k + 1) a b true C.p C.f C.ws C.ks C.ac = some false := by rw [empennageref04_Path.j0, if_pos rfl]
  simp only [Option.bind_some]
  rw [hj]
  by_cases hm : mayB C = true
  · have he : (chk C).e = 0 := by
      unfold mayB at hm
      exact beq_iff_eq.1 hm
    have hp := chk_p he
    have hks := chk_k he
    rw [if_pos hm, wrap_sm (n := C.p - 1) (by omega)]
    simp only [rin_f, Option.bind_some, decide_eq_true_eq]
    by_cases ha : 0 ≤ a ∧ a ≤ C.p - 1
    · rw [if_pos ha]
      by_cases hb : 0 ≤ b ∧ b ≤ C.p - 1
      · rw [decide_eq_true hb]
        obtain ⟨p, hpp⟩ : ∃ p : Nat, C.p = p := ⟨C.p.toNat, by omega⟩
        rw [hpp] at ha hb hp hks ⊢
        rw [empennageref04_Path.j0]
        simp only [Option.bind_some, Bool.not_true, Bool.false_eq_true, if_false, Int.toNat_natCast]
        rw [if_pos (by omega), if_pos (by omega), if_pos ha.1, if_pos (by rw [List.length_replicate]; omega)]
        have hS : SL ((List.replicate p false).set a.toNat true) p (upd (fun _ => false) a) := SL.set ⟨List.length_replicate .., fun i hi => by rw [List.getD_eq_getElem?_getD, List.getElem?_replicate, if_pos hi]; rfl⟩ (by omega)
        obtain ⟨k', rfl⟩ : ∃ k', k = k' + 4 * (C.ks.length + 2) + 1 := ⟨k - 4 * (C.ks.length + 2) - 1, by omega⟩
        have hl := path_l0 b C.f C.ws C.ac p C.ks hks.2 (by omega) (by omega) 4 k' 0 _ _ (by omega) hS
        rw [show ((0 : Nat) : Int) = 0 from rfl] at hl
        rw [hl]
        congr 1
        rw [Bool.eq_iff_iff, passes_all (fun x hx => by have := rB_range (hks.2 x hx); omega) (by omega), pathB_iff he, hpp]
        exact ⟨fun h => ⟨ha, hb, h⟩, fun h => h.2.2⟩
      · rw [decide_eq_false hb]
        rw [path_no (fun hh => hb hh.2.2)]
        exact hj
    · rw [if_neg ha, path_no (fun hh => ha hh.2.1)]
  · rw [if_neg hm, path_no (fun hh => hm (beq_iff_eq.2 hh.1))]
theorem into_l0 (C : Cfg) (h2 : C.ws.length ≤ 10) (h3 : C.ks.length ≤ 10) (h4 : C.ac.length ≤ 10) (b : Int) : ∀ (m k j : Nat), j + m = 4 → 120 + m + 1 ≤ k → empennageref04_Into.l0 k b (il (fun a => pathB C a b) j) (j : Int) C.p C.f C.ws C.ks C.ac = some (il (fun a => pathB C a b) 4)
  | m, 0, j, _, h => by omega
  | 0, k + 1, j, h1, h => by
    obtain rfl : j = 4 := by omega
    rw [empennageref04_Into.l0, if_neg (by omega)]
  | m + 1, k + 1, j, h1, h => by
    have hil := il_len (fun a => pathB C a b) j
    rw [empennageref04_Into.l0, if_pos (by omega), path_f C k (by omega) h2 h3 h4]
    simp only [Option.bind_some]
    rw [wrN j (by omega)]
    by_cases hb : pathB C (j : Int) b = true
    · rw [if_pos hb, if_pos (by omega), ← il_yes (P := fun a => pathB C a b) hb]
      exact into_l0 C h2 h3 h4 b m k (j + 1) (by omega) (by omega)
    · rw [if_neg hb, ← il_no (P := fun a => pathB C a b) (by simpa using hb)]
      exact into_l0 C h2 h3 h4 b m k (j + 1) (by omega) (by omega)
theorem into_f (C : Cfg) (k : Nat) (hk : 130 ≤ k) (h2 : C.ws.length ≤ 10) (h3 : C.ks.length ≤ 10) (h4 : C.ac.length ≤ 10) (b : Int) : empennageref04_Into.f k C.p C.f C.ws C.ks C.ac b = some (il (fun a => pathB C a b) 4) :=
  into_l0 C h2 h3 h4 b 4 k 0 (by omega) (by omega)
theorem rsame_l0 (l : List Int) (hl : l.length ≤ 1000) : ∀ (d k j : Nat), l.length = j + d → d < k → empennageref01_Same.l0 k l l (j : Int) = some true
  | d, 0, j, _, h => by omega
  | 0, k + 1, j, h1, h => by rw [empennageref01_Same.l0, if_neg (by omega)]
  | d + 1, k + 1, j, h1, h => by
    rw [empennageref01_Same.l0, if_pos (by omega), if_pos (by omega), if_pos (by omega), if_pos rfl, wrN j (by omega)]
    exact rsame_l0 l hl d k (j + 1) (by omega) (by omega)
theorem rsame_f (l : List Int) (k : Nat) (hk : l.length < k) (hl : l.length ≤ 1000) : empennageref01_Same.f k l l = some true := by
  unfold empennageref01_Same.f
  rw [if_pos rfl]
  exact rsame_l0 l hl l.length k 0 (by omega) hk
/-! The contracts. -/
section
variable {C : Cfg} {A2 A3 A4 : Option Addr} {c2 c3 c4 : Nat} {w : World}
theorem rpath_any (h : CX w C A2 c2 A3 c3 A4 c4) (h2 : C.ws.length ≤ 10) (h3 : C.ks.length ≤ 10) (h4 : C.ac.length ≤ 10) (a b : Int) :
    Calls Tryd.prog 16 #[.agg #[.int .i64 C.p, .int .i64 C.f, .slice A2 C.ws.length c2, .slice A3 C.ks.length c3, .slice A4 C.ac.length c4], .int .i64 a, .int .i64 b] w fun e w' => e = .returned (.bool (pathB C a b)) ∧ Below w.heap.size w w' := by
  have hc := empennageref04_Path.calls 120 C.p C.f A2 c2 C.ws A3 c3 C.ks A4 c4 C.ac a b _ w h.w h.wl h.k h.kl h.a h.al (path_f C 120 (by omega) h2 h3 h4 a b)
  exact hc
theorem rinto_any (h : CX w C A2 c2 A3 c3 A4 c4) (h2 : C.ws.length ≤ 10) (h3 : C.ks.length ≤ 10) (h4 : C.ac.length ≤ 10) (b : Int) :
    Calls Tryd.prog 19 #[.agg #[.int .i64 C.p, .int .i64 C.f, .slice A2 C.ws.length c2, .slice A3 C.ks.length c3, .slice A4 C.ac.length c4], .int .i64 b] w fun e w' => ∃ A c, e = .returned (.slice A (il (fun a => pathB C a b) 4).length c) ∧ (il (fun a => pathB C a b) 4).length ≤ c ∧ Kd.C (Kd.int .i64) w' A (il (fun a => pathB C a b) 4).length (il (fun a => pathB C a b) 4) ∧ Below w.heap.size w w' := by
  have hc := empennageref04_Into.calls 130 C.p C.f A2 c2 C.ws A3 c3 C.ks A4 c4 C.ac b _ w h.w h.wl h.k h.kl h.a h.al (into_f C 130 (by omega) h2 h3 h4 b)
  refine hc.mono fun e w' hh => ?_
  obtain ⟨v, rfl, hr, hb⟩ := hh
  obtain ⟨A, c, rfl, h5, h6⟩ := Kd.R_reads hr
  exact ⟨A, c, rfl, h5, h6, hb⟩
end
theorem rsame_any' {A B : Option Addr} {c d : Nat} {l : List Int} {w : World} (hA : Kd.C (Kd.int .i64) w A l.length l) (hB : Kd.C (Kd.int .i64) w B l.length l) (hl : l.length ≤ 1000) (hc : l.length ≤ c) (hd : l.length ≤ d) :
    Calls Tryd.prog 17 #[.slice A l.length c, .slice B l.length d] w fun e w' => e = .returned (.bool true) ∧ Below w.heap.size w w' :=
  (empennageref01_Same.calls 1001 A c l B d l true w hA hc hB hd (rsame_f l 1001 (by omega) hl)).mono fun e w' hh => ⟨hh.1, by obtain ⟨n, rfl⟩ := hh.2; exact pw_below_drewN (Below.refl _ _) _⟩
end Go.Proofs.YtehcgojcmcahnaaDoor.Cf
