/- Layer 4 (config): the document's Good: what it makes may be. The printed text's plain function. -/
import Derived.Test.YtehcgojcmcahnaaDoorCfM1
import Derived.Test.YtehcgojcmcahnaaDoorCfGp
set_option linter.unusedVariables false
set_option linter.unusedSimpArgs false
namespace Go.Proofs.YtehcgojcmcahnaaDoor.Cf
open Go.RowKit Go.Proofs.YtehcgojcmcahnaaDoorW.PrintWords Go.Proofs.YtehcgojcmcahnaaDoorW.PrintLast Go.Proofs.YtehcgojcmcahnaaDoorW.PrintMore Go.Proofs.YtehcgojcmcahnaaDoor.Cz Go.Proofs.YtehcgojcmcahnaaDoor.PConfigSame
/-! The two prints' rows are each other's. -/
def bkW (x : S33) : PConfigPaths.S33 := ⟨x.f0, x.f1, x.f2⟩
def cvW (x : PConfigPaths.S33) : S33 := ⟨x.f0, x.f1, x.f2⟩
def bkK (x : S35) : PConfigPaths.S35 := ⟨x.f0, x.f1, x.f2, x.f3, x.f4, x.f5, x.f6, x.f7, x.f8, x.f9, x.f10⟩
def cvK (x : PConfigPaths.S35) : S35 := ⟨x.f0, x.f1, x.f2, x.f3, x.f4, x.f5, x.f6, x.f7, x.f8, x.f9, x.f10⟩
theorem cvbkW (l : List S33) : (l.map bkW).map cvW = l := by rw [List.map_map]; exact (List.map_congr_left (fun x _ => rfl)).trans (List.map_id l)
theorem cvbkK (l : List S35) : (l.map bkK).map cvK = l := by rw [List.map_map]; exact (List.map_congr_left (fun x _ => rfl)).trans (List.map_id l)
theorem Kd.C_map {α β : Type} {d : Kd α} {e : Kd β} {f : α → β} (hs : d.sz = e.sz) (hk : ∀ w x cs, d.K w x cs → e.K w (f x) cs) {W : World} {A : Option Addr} {n : Nat} {xs : List α} (h : Kd.C d W A n xs) : Kd.C e W A n (xs.map f) := by
  obtain ⟨h1, h2, h3⟩ := h
  refine ⟨by simpa using h1, h2, fun hp => ?_⟩
  obtain ⟨ad, e1, h4⟩ := h3 hp
  refine ⟨ad, e1, fun j p hj => ?_⟩
  rw [List.getElem?_map] at hj
  obtain ⟨x, hx, rfl⟩ := Option.map_eq_some_iff.1 hj
  obtain ⟨cs, h5, h6, h7⟩ := h4 j x hx
  exact ⟨cs, by rw [← hs]; exact h5, hk _ _ _ h6, by rw [← hs]; exact h7⟩
theorem toPaths33 {W : World} {A : Option Addr} {xs : List S33} (h : Kd.C k33 W A xs.length xs) : Kd.C PConfigPaths.k33 W A (xs.map bkW).length (xs.map bkW) := by
  rw [List.length_map]
  exact Kd.C_map (d := k33) (e := PConfigPaths.k33) rfl (fun w x cs hk => by rw [k33_open hk]; exact PConfigPaths.k33_mk w (bkW x)) h
theorem toPaths35 {W : World} {A : Option Addr} {xs : List S35} (h : Kd.C k35 W A xs.length xs) : Kd.C PConfigPaths.k35 W A (xs.map bkK).length (xs.map bkK) := by
  rw [List.length_map]
  exact Kd.C_map (d := k35) (e := PConfigPaths.k35) rfl (fun w x cs hk => by rw [k35_open hk]; exact PConfigPaths.k35_mk w (bkK x)) h
theorem ofPaths33 {W : World} {A : Option Addr} {xs : List S33} (h : Kd.C PConfigPaths.k33 W A (xs.map bkW).length (xs.map bkW)) : Kd.C k33 W A xs.length xs := by
  have h1 := Kd.C_map (d := PConfigPaths.k33) (e := k33) (f := cvW) rfl (fun w x cs hk => by rw [PConfigPaths.k33_open hk]; exact k33_mk w (cvW x)) h
  rw [cvbkW, List.length_map] at h1
  exact h1
theorem ofPaths35 {W : World} {A : Option Addr} {xs : List S35} (h : Kd.C PConfigPaths.k35 W A (xs.map bkK).length (xs.map bkK)) : Kd.C k35 W A xs.length xs := by
  have h1 := Kd.C_map (d := PConfigPaths.k35) (e := k35) (f := cvK) rfl (fun w x cs hk => by rw [PConfigPaths.k35_open hk]; exact k35_mk w (cvK x)) h
  rw [cvbkK, List.length_map] at h1
  exact h1
/-! What may be. -/
def chain (p : Int) : Int → List S33 → Prop
  | _, [] => True
  | en, x :: t => ((-1 ≤ x.f0 ∧ x.f0 ≤ p - 1) ∧ 1 ≤ x.f2 ∧ en ≤ x.f1) ∧ chain p (x.f1 + x.f2) t
def endW : Int → List S33 → Int
  | en, [] => en
  | _, x :: t => endW (x.f1 + x.f2) t
theorem chain_end {p : Int} : ∀ {en : Int} {l : List S33}, chain p en l → en ≤ endW en l
  | en, [], _ => Int.le_refl _
  | en, x :: t, h => by
    have h1 := chain_end h.2
    have h2 := h.1
    show en ≤ endW (x.f1 + x.f2) t
    omega
theorem chain_snoc {p : Int} {x : S33} : ∀ {en : Int} {l : List S33}, chain p en l → ((-1 ≤ x.f0 ∧ x.f0 ≤ p - 1) ∧ 1 ≤ x.f2 ∧ endW en l ≤ x.f1) → chain p en (l ++ [x])
  | en, [], _, hx => ⟨hx, trivial⟩
  | en, y :: t, h, hx => ⟨h.1, chain_snoc h.2 hx⟩
theorem endW_snoc {x : S33} : ∀ {en : Int} {l : List S33}, endW en (l ++ [x]) = x.f1 + x.f2
  | en, [] => rfl
  | en, y :: t => endW_snoc (l := t)
theorem badW_ok {p f en : Int} {x : S33} (h : (-1 ≤ x.f0 ∧ x.f0 ≤ p - 1) ∧ 1 ≤ x.f2 ∧ en ≤ x.f1) (h0 : 0 ≤ en) (hf : x.f1 + x.f2 ≤ f) : badW p f en x = false := by
  unfold badW btw
  have a1 : decide (-1 ≤ x.f0 ∧ x.f0 ≤ p - 1) = true := decide_eq_true h.1
  have a2 : decide (x.f2 < 1) = false := decide_eq_false (by omega)
  have a3 : decide (f < x.f2) = false := decide_eq_false (by omega)
  have a4 : decide (x.f1 < en) = false := decide_eq_false (by omega)
  have a5 : decide (f - x.f2 < x.f1) = false := decide_eq_false (by omega)
  rw [a1, a2, a3, a4, a5]
  rfl
theorem scan_ok {p f : Int} : ∀ {en : Int} {l : List S33} (i : Nat), chain p en l → 0 ≤ en → endW en l ≤ f → scanW p f en i l = none
  | en, [], i, _, _, _ => rfl
  | en, x :: t, i, h, h0, hf => by
    have h1 := chain_end h.2
    have h2 := h.1
    have h3 : endW (x.f1 + x.f2) t ≤ f := hf
    show (if badW p f en x = true then _ else _) = none
    rw [badW_ok h.1 h0 (by omega), if_neg (by decide)]
    exact scan_ok (i + 1) h.2 (by omega) h3
/-- A config that Good may make. -/
structure GoodC (G : Cfg) : Prop where
  p : 1 ≤ G.p ∧ G.p ≤ 4
  f : 1 ≤ G.f ∧ G.f ≤ 64
  w : 1 ≤ G.ws.length ∧ G.ws.length ≤ 6
  c : chain G.p 0 G.ws
  e : endW 0 G.ws ≤ G.f
  k : G.ks.length ≤ 5
  r : ∀ x ∈ G.ks, rB G.p x = true
  a : (G.ac.length : Int) = G.p
  v : ∀ n ∈ G.ac, 0 ≤ n ∧ n ≤ 2
theorem findI_none {α : Type} {q : α → Bool} : ∀ {l : List α} {i : Nat}, (∀ x ∈ l, q x = false) → findI q l i = -1
  | [], i, _ => rfl
  | x :: t, i, h => by
    show (if q x = true then _ else _) = _
    rw [h x (List.mem_cons_self ..), if_neg (by decide)]
    exact findI_none fun y hy => h y (List.mem_cons_of_mem _ hy)
theorem GoodC.hd {G : Cfg} (h : GoodC G) : hd G.p G.f G.ws.length = none := by
  have h1 := h.p
  have h2 := h.f
  have h3 := h.w
  unfold Cz.hd
  have a1 : btw G.p 1 4 = true := decide_eq_true h1
  have a2 : btw G.f 1 64 = true := decide_eq_true h2
  have a3 : btw (G.ws.length : Int) 1 8 = true := decide_eq_true (by omega)
  rw [a1, a2, a3]
  rfl
theorem GoodC.ls {G : Cfg} (h : GoodC G) : ls G = none := by
  unfold Cf.ls
  have h1 := h.k
  have h2 := h.a
  rw [scan_ok 0 h.c (Int.le_refl _) h.e]
  show (if 6 < G.ks.length then _ else _) = _
  rw [if_neg (by omega), findI_none (fun x hx => by rw [h.r x hx]; rfl), if_neg (by decide), if_neg (fun hh => hh h2), findI_none (fun n hn => by have := h.v n hn; rw [show btw n 0 2 = true from decide_eq_true this]; rfl), if_neg (by decide)]
theorem GoodC.chk {G : Cfg} (h : GoodC G) : chk G = ⟨0, 0, 0⟩ := by
  unfold Cf.chk
  rw [h.hd, h.ls]
/-! The printed Good. -/
theorem near_f (a l m : Int) (hm : 1 ≤ m ∧ m ≤ 1000) (hl : -1000 ≤ l ∧ l ≤ 1000) : ∃ r, 0 ≤ r ∧ r < m ∧ PConfigPaths.empennageref04_near.f a l m = some (l + r) := by
  have hu : IntKind.u64.wrap m = m := by simp [IntKind.wrap, IntKind.bits, IntKind.signed]; omega
  have h0 : 0 ≤ IntKind.u64.wrap a := by simp [IntKind.wrap, IntKind.bits, IntKind.signed]; omega
  unfold PConfigPaths.empennageref04_near.f
  rw [hu, if_neg (by omega)]
  have h1 : 0 ≤ Int.tmod (IntKind.u64.wrap a) m := Int.tmod_nonneg _ h0
  have h2 : Int.tmod (IntKind.u64.wrap a) m < m := Int.tmod_lt_of_pos _ (by omega)
  generalize Int.tmod (IntKind.u64.wrap a) m = r at h1 h2
  refine ⟨r, h1, h2, ?_⟩
  have e1 : wrap64 r = r := by unfold wrap64; omega
  rw [e1]
  have e2 : wrap64 (l + r) = l + r := by unfold wrap64; omega
  rw [e2]
theorem wrap_sm {n : Int} (h : -100000 ≤ n ∧ n ≤ 100000) : wrap64 n = n := by unfold wrap64; omega
theorem chan_f (x : PConfigPaths.S35) (p : Int) (hp : 2 ≤ p ∧ p ≤ 4) : ∃ y : S35, PConfigPaths.empennageref04_channel.f x.f0 x.f1 x.f2 x.f3 x.f4 x.f5 x.f6 x.f7 x.f8 x.f9 x.f10 p = some (y.f0, y.f1, y.f2, y.f3, y.f4, y.f5, y.f6, y.f7, y.f8, y.f9, y.f10) ∧ rB p y = true := by
  unfold PConfigPaths.empennageref04_channel.f
  obtain ⟨r0, a0, b0, e0⟩ := near_f x.f0 0 2 (by omega) (by omega)
  obtain ⟨r1, a1, b1, e1⟩ := near_f x.f1 0 p (by omega) (by omega)
  obtain ⟨r3, a3, b3, e3⟩ := near_f x.f3 1 4 (by omega) (by omega)
  obtain ⟨r2, a2, b2, e2⟩ := near_f x.f2 1 (p - 1) (by omega) (by omega)
  obtain ⟨r4, a4, b4, e4⟩ := near_f x.f4 1 30 (by omega) (by omega)
  obtain ⟨r5, a5, b5, e5⟩ := near_f x.f5 1 3 (by omega) (by omega)
  obtain ⟨r6, a6, b6, e6⟩ := near_f x.f6 1 4 (by omega) (by omega)
  obtain ⟨r7, a7, b7, e7⟩ := near_f x.f7 1 4 (by omega) (by omega)
  obtain ⟨r8, a8, b8, e8⟩ := near_f x.f8 1 60 (by omega) (by omega)
  obtain ⟨r9, a9, b9, e9⟩ := near_f x.f9 0 5 (by omega) (by omega)
  obtain ⟨r10, a10, b10, e10⟩ := near_f x.f10 1 6 (by omega) (by omega)
  rw [wrap_sm (n := p - 1) (by omega), e0, e1, e3, e2, e4, e5, e6, e7, e8, e9, e10]
  simp only [Option.bind_some]
  rw [if_neg (by omega), wrap_sm (n := 0 + r1 + (1 + r2)) (by omega)]
  have hto : 0 ≤ Int.tmod (0 + r1 + (1 + r2)) p ∧ Int.tmod (0 + r1 + (1 + r2)) p < p ∧ Int.tmod (0 + r1 + (1 + r2)) p ≠ 0 + r1 := by
    rw [Int.tmod_eq_emod_of_nonneg (by omega)]
    obtain rfl | rfl | rfl : p = 2 ∨ p = 3 ∨ p = 4 := by omega
    all_goals omega
  generalize Int.tmod (0 + r1 + (1 + r2)) p = tt at hto
  obtain ⟨t1, t2, t3⟩ := hto
  have m1 : decide ((if tt < 0 + r1 then tt else 0 + r1) < 0) = false := decide_eq_false (by split <;> omega)
  have m2 : decide (p ≤ (if 0 + r1 < tt then tt else 0 + r1)) = false := decide_eq_false (by split <;> omega)
  have m3 : ((0 + r1) == tt) = false := by rw [beq_eq_false_iff_ne]; omega
  have m4 : btw (1 + r3) 1 4 = true := decide_eq_true (by omega)
  by_cases h0 : 0 + r0 = 0
  · rw [if_pos h0]
    refine ⟨⟨0 + r0, 0 + r1, tt, 1 + r3, 1 + r4, 0, 0, 0, 0, 0, 0⟩, rfl, ?_⟩
    have m5 : btw (1 + r4) 1 65536 = true := decide_eq_true (by omega)
    show rightB p (0 + r0) (0 + r1) tt (1 + r3) (1 + r4) 0 0 0 0 0 0 = true
    unfold rightB
    rw [m1, m2, m3, m4, m5, h0]
    rfl
  · rw [if_neg h0]
    have h1 : 0 + r0 = 1 := by omega
    refine ⟨⟨0 + r0, 0 + r1, tt, 1 + r3, 0, 1 + r5, 1 + r6, 1 + r7, 1 + r8, 0 + r9, 1 + r10⟩, rfl, ?_⟩
    have m5 : btw (1 + r5) 1 3 = true := decide_eq_true (by omega)
    have m6 : btw (1 + r6) 1 8 = true := decide_eq_true (by omega)
    have m7 : btw (1 + r7) 1 8 = true := decide_eq_true (by omega)
    have m8 : btw (1 + r8) 1 65536 = true := decide_eq_true (by omega)
    have m9 : btw (0 + r9) 0 64 = true := decide_eq_true (by omega)
    have m10 : btw (1 + r10) 1 64 = true := decide_eq_true (by omega)
    show rightB p (0 + r0) (0 + r1) tt (1 + r3) 0 (1 + r5) (1 + r6) (1 + r7) (1 + r8) (0 + r9) (1 + r10) = true
    unfold rightB
    rw [m1, m2, m3, m4, m5, m6, m7, m8, m9, m10, h1]
    rfl
open PConfigPaths (empennageref04_Good.l0 empennageref04_Good.j1 empennageref04_Good.j2 empennageref04_Good.j4 empennageref04_Good.l1 empennageref04_Good.l2)
theorem wrN (j : Nat) (h : j ≤ 100000) : wrap64 ((j : Int) + 1) = ((j + 1 : Nat) : Int) := by unfold wrap64; omega
theorem l2_f (p f c0 c1 : Int) (c2 : List PConfigPaths.S33) (c3 : List PConfigPaths.S35) (c4 : List Int) (ws : List PConfigPaths.S33) (ks : List PConfigPaths.S35) (hp : 1 ≤ p ∧ p ≤ 4) : ∀ (k j : Nat) (acc : List Int), acc.length = j → (j : Int) ≤ p → p < k + j → (∀ n ∈ acc, 0 ≤ n ∧ n ≤ 2) →
    ∃ ac : List Int, empennageref04_Good.l2 k (j : Int) c0 c1 c2 c3 c4 p f ws ks acc = some (p, f, ws, ks, ac) ∧ (ac.length : Int) = p ∧ ∀ n ∈ ac, 0 ≤ n ∧ n ≤ 2
  | 0, j, acc, _, h2, h3, _ => by omega
  | k + 1, j, acc, h1, h2, h3, h4 => by
    rw [empennageref04_Good.l2]
    by_cases hj : (j : Int) < p
    · rw [if_pos hj, wrN j (by omega)]
      by_cases hc : (j : Int) < (c4.length : Int)
      · rw [if_pos hc, if_pos (by omega)]
        obtain ⟨r, hr0, hr1, e⟩ := near_f (rd c4 (j : Int)) 0 3 (by omega) (by omega)
        rw [e]
        simp only [Option.bind_some]
        rw [if_pos (by omega)]
        refine l2_f p f c0 c1 c2 c3 c4 ws ks hp k (j + 1) (acc ++ [0 + r]) (by simp [h1]) (by omega) (by omega) (fun n hn => ?_)
        rcases List.mem_append.1 hn with hn | hn
        · exact h4 n hn
        · rw [List.mem_singleton.1 hn]; omega
      · rw [if_neg hc, if_pos (by omega)]
        refine l2_f p f c0 c1 c2 c3 c4 ws ks hp k (j + 1) (acc ++ [0]) (by simp [h1]) (by omega) (by omega) (fun n hn => ?_)
        rcases List.mem_append.1 hn with hn | hn
        · exact h4 n hn
        · rw [List.mem_singleton.1 hn]; omega
    · rw [if_neg hj]
      exact ⟨acc, rfl, by omega, h4⟩
theorem j4_f (p f c0 c1 : Int) (c2 : List PConfigPaths.S33) (c3 : List PConfigPaths.S35) (c4 : List Int) (ws : List PConfigPaths.S33) (ks : List PConfigPaths.S35) (hp : 1 ≤ p ∧ p ≤ 4) (k : Nat) (hk : 10 ≤ k) :
    ∃ ac : List Int, empennageref04_Good.j4 k c0 c1 c2 c3 c4 p f ws ks = some (p, f, ws, ks, ac) ∧ (ac.length : Int) = p ∧ ∀ n ∈ ac, 0 ≤ n ∧ n ≤ 2 := by
  obtain ⟨k, rfl⟩ : ∃ k', k = k' + 1 := ⟨k - 1, by omega⟩
  rw [empennageref04_Good.j4]
  exact l2_f p f c0 c1 c2 c3 c4 ws ks hp k 0 [] rfl (by omega) (by omega) (fun n hn => by cases hn)
theorem l1_f (p f c0 c1 : Int) (c2 : List PConfigPaths.S33) (c3 : List PConfigPaths.S35) (c4 : List Int) (ws : List PConfigPaths.S33) (hp : 1 ≤ p ∧ p ≤ 4) : ∀ (k j : Nat) (acc : List S35), acc.length ≤ j → j ≤ 5 → 25 ≤ k + j → (∀ x ∈ acc, rB p x = true) →
    ∃ (ks : List S35) (ac : List Int), empennageref04_Good.l1 k (j : Int) c0 c1 c2 c3 c4 p f ws (acc.map bkK) = some (p, f, ws, ks.map bkK, ac) ∧ ks.length ≤ 5 ∧ (∀ x ∈ ks, rB p x = true) ∧ (ac.length : Int) = p ∧ ∀ n ∈ ac, 0 ≤ n ∧ n ≤ 2
  | 0, j, acc, _, h2, h3, _ => by omega
  | k + 1, j, acc, h1, h2, h3, h4 => by
    have fin : ∃ (ks : List S35) (ac : List Int), empennageref04_Good.j4 k c0 c1 c2 c3 c4 p f ws (acc.map bkK) = some (p, f, ws, ks.map bkK, ac) ∧ ks.length ≤ 5 ∧ (∀ x ∈ ks, rB p x = true) ∧ (ac.length : Int) = p ∧ ∀ n ∈ ac, 0 ≤ n ∧ n ≤ 2 := by
      obtain ⟨ac, e, h5, h6⟩ := j4_f p f c0 c1 c2 c3 c4 ws (acc.map bkK) hp k (by omega)
      exact ⟨acc, ac, e, by omega, h4, h5, h6⟩
    rw [empennageref04_Good.l1]
    by_cases hj : (j : Int) < (c3.length : Int)
    · rw [if_pos hj]
      by_cases h5 : (j : Int) < 5
      · rw [if_pos h5]
        by_cases hp1 : p > 1
        · rw [if_pos hp1, if_pos (by omega)]
          obtain ⟨y, e, hy⟩ := chan_f (PConfigPaths.rd_T35 c3 (j : Int)) p (by omega)
          rw [e]
          simp only [Option.bind_some]
          rw [if_pos (by rw [List.length_map]; omega), wrN j (by omega)]
          have e2 : acc.map bkK ++ [(⟨y.f0, y.f1, y.f2, y.f3, y.f4, y.f5, y.f6, y.f7, y.f8, y.f9, y.f10⟩ : PConfigPaths.S35)] = (acc ++ [y]).map bkK := by rw [List.map_append]; rfl
          rw [e2]
          refine l1_f p f c0 c1 c2 c3 c4 ws hp k (j + 1) (acc ++ [y]) (by simp; omega) (by omega) (by omega) (fun x hx => ?_)
          rcases List.mem_append.1 hx with hx | hx
          · exact h4 x hx
          · rw [List.mem_singleton.1 hx]; exact hy
        · rw [if_neg hp1]
          exact fin
      · rw [if_neg h5]
        exact fin
    · rw [if_neg hj]
      exact fin
theorem j2_f (p c0 c1 : Int) (c2 : List PConfigPaths.S33) (c3 : List PConfigPaths.S35) (c4 : List Int) (f0 : Int) (ws : List S33) (hp : 1 ≤ p ∧ p ≤ 4) (k : Nat) (hk : 40 ≤ k) (h1 : 1 ≤ ws.length ∧ ws.length ≤ 6) (h2 : chain p 0 ws) (h3 : endW 0 ws ≤ 48) (h4 : 1 ≤ endW 0 ws) :
    ∃ G : Cfg, empennageref04_Good.j2 k (endW 0 ws) c0 c1 c2 c3 c4 p f0 (ws.map bkW) = some (G.p, G.f, G.ws.map bkW, G.ks.map bkK, G.ac) ∧ GoodC G := by
  obtain ⟨k, rfl⟩ : ∃ k', k = k' + 1 := ⟨k - 1, by omega⟩
  rw [empennageref04_Good.j2]
  obtain ⟨r, hr0, hr1, e⟩ := near_f c1 0 3 (by omega) (by omega)
  rw [e]
  simp only [Option.bind_some]
  rw [wrap_sm (n := endW 0 ws + (0 + r)) (by omega)]
  obtain ⟨ks, ac, e2, k1, k2, k3, k4⟩ := l1_f p (endW 0 ws + (0 + r)) c0 c1 c2 c3 c4 (ws.map bkW) hp k 0 [] (by simp) (by omega) (by omega) (fun x hx => by cases hx)
  exact ⟨⟨p, endW 0 ws + (0 + r), ws, ks, ac⟩, e2, hp, ⟨by show 1 ≤ endW 0 ws + (0 + r); omega, by show endW 0 ws + (0 + r) ≤ 64; omega⟩, h1, h2, by show endW 0 ws ≤ endW 0 ws + (0 + r); omega, k1, k2, k3, k4⟩
theorem l0_f (p c0 c1 : Int) (c2 : List PConfigPaths.S33) (c3 : List PConfigPaths.S35) (c4 : List Int) (hp : 1 ≤ p ∧ p ≤ 4) : ∀ (k j : Nat) (ws : List S33), ws.length = j → j ≤ 6 → 70 ≤ k + 2 * j → chain p 0 ws → endW 0 ws ≤ 8 * j → (0 < j → 1 ≤ endW 0 ws) →
    ∃ G : Cfg, empennageref04_Good.l0 k (endW 0 ws) (j : Int) c0 c1 c2 c3 c4 p 0 (ws.map bkW) = some (G.p, G.f, G.ws.map bkW, G.ks.map bkK, G.ac) ∧ GoodC G
  | 0, j, ws, _, h2, h3, _, _, _ => by omega
  | 1, j, ws, _, h2, h3, _, _, _ => by omega
  | k + 2, j, ws, h1, h2, h3, h4, h5, h6 => by
    have h0 := chain_end h4
    have fin : ∃ G : Cfg, (if ((ws.map bkW).length : Int) = 0 then (empennageref04_Good.j2 k 2 c0 c1 c2 c3 c4 p 0 (([(⟨0, 0, 2⟩ : PConfigPaths.S33)] : List (PConfigPaths.S33)))) else (empennageref04_Good.j2 k (endW 0 ws) c0 c1 c2 c3 c4 p 0 (ws.map bkW))) = some (G.p, G.f, G.ws.map bkW, G.ks.map bkK, G.ac) ∧ GoodC G := by
      rw [List.length_map]
      by_cases hz : (ws.length : Int) = 0
      · rw [if_pos hz]
        exact j2_f p c0 c1 c2 c3 c4 0 [⟨0, 0, 2⟩] hp k (by omega) ⟨by decide, by decide⟩ ⟨⟨⟨by decide, by show (0 : Int) ≤ p - 1; omega⟩, by decide, by decide⟩, trivial⟩ (by decide) (by decide)
      · rw [if_neg hz]
        exact j2_f p c0 c1 c2 c3 c4 0 ws hp k (by omega) ⟨by omega, by omega⟩ h4 (by omega) (h6 (by omega))
    rw [empennageref04_Good.l0]
    by_cases hj : (j : Int) < (c2.length : Int)
    · rw [if_pos hj]
      rw [empennageref04_Good.j1]
      by_cases h8 : (j : Int) < 6
      · rw [if_pos (decide_eq_true h8), if_pos (by omega), if_pos hj, wrap_sm (n := p + 1) (by omega)]
        obtain ⟨r0, a0, b0, e0⟩ := near_f (PConfigPaths.rd_T33 c2 (j : Int)).f0 (-1) (p + 1) (by omega) (by omega)
        obtain ⟨r1, a1, b1, e1⟩ := near_f (PConfigPaths.rd_T33 c2 (j : Int)).f1 0 3 (by omega) (by omega)
        obtain ⟨r2, a2, b2, e2⟩ := near_f (PConfigPaths.rd_T33 c2 (j : Int)).f2 1 6 (by omega) (by omega)
        rw [e0, e1, e2]
        simp only [Option.bind_some]
        rw [if_pos (by rw [List.length_map]; omega), wrN j (by omega), wrap_sm (n := endW 0 ws + (0 + r1)) (by omega), wrap_sm (n := endW 0 ws + (0 + r1) + (1 + r2)) (by omega)]
        have e3 : ws.map bkW ++ [(⟨-1 + r0, endW 0 ws + (0 + r1), 1 + r2⟩ : PConfigPaths.S33)] = (ws ++ [(⟨-1 + r0, endW 0 ws + (0 + r1), 1 + r2⟩ : S33)]).map bkW := by rw [List.map_append]; rfl
        rw [e3]
        have e4 : endW 0 (ws ++ [(⟨-1 + r0, endW 0 ws + (0 + r1), 1 + r2⟩ : S33)]) = endW 0 ws + (0 + r1) + (1 + r2) := endW_snoc
        have hr := l0_f p c0 c1 c2 c3 c4 hp k (j + 1) (ws ++ [(⟨-1 + r0, endW 0 ws + (0 + r1), 1 + r2⟩ : S33)]) (by simp [h1]) (by omega) (by omega) (chain_snoc h4 ⟨⟨by show -1 ≤ -1 + r0; omega, by show -1 + r0 ≤ p - 1; omega⟩, by show 1 ≤ 1 + r2; omega, by show endW 0 ws ≤ endW 0 ws + (0 + r1); omega⟩) (by rw [e4]; omega) (fun _ => by rw [e4]; omega)
        rw [e4] at hr
        exact hr
      · rw [if_neg (by simpa using h8)]
        exact fin
    · rw [if_neg hj]
      rw [empennageref04_Good.j1]
      rw [if_neg (by decide)]
      exact fin
theorem good_f (C : Cfg) : ∃ G : Cfg, PConfigPaths.empennageref04_Good.f 100 C.p C.f (C.ws.map bkW) (C.ks.map bkK) C.ac = some (G.p, G.f, G.ws.map bkW, G.ks.map bkK, G.ac) ∧ GoodC G := by
  unfold PConfigPaths.empennageref04_Good.f
  obtain ⟨r, hr0, hr1, e⟩ := near_f C.p 1 4 (by omega) (by omega)
  rw [e]
  simp only [Option.bind_some]
  exact l0_f (1 + r) C.p C.f (C.ws.map bkW) (C.ks.map bkK) C.ac (by omega) 100 0 [] rfl (by omega) (by omega) trivial (by decide) (by omega)
theorem good_any {C : Cfg} {A2 A3 A4 : Option Addr} {c2 c3 c4 : Nat} {w : World} (h : CX w C A2 c2 A3 c3 A4 c4) : ∃ G : Cfg, GoodC G ∧ ∀ W, Below w.heap.size w W →
    Calls Tryd.prog 10 #[.agg #[.int .i64 C.p, .int .i64 C.f, .slice A2 C.ws.length c2, .slice A3 C.ks.length c3, .slice A4 C.ac.length c4]] W fun e w' => ∃ B2 d2 B3 d3 B4 d4, e = .returned (.agg #[.int .i64 G.p, .int .i64 G.f, .slice B2 G.ws.length d2, .slice B3 G.ks.length d3, .slice B4 G.ac.length d4]) ∧ CX w' G B2 d2 B3 d3 B4 d4 ∧ Below W.heap.size W w' := by
  obtain ⟨G, e, hG⟩ := good_f C
  refine ⟨G, hG, fun W hb => ?_⟩
  have hW := h.below hb
  have hc := PConfigPaths.empennageref04_Good.calls 100 C.p C.f A2 c2 (C.ws.map bkW) A3 c3 (C.ks.map bkK) A4 c4 C.ac G.p G.f (G.ws.map bkW) (G.ks.map bkK) G.ac W (toPaths33 hW.w) (by rw [List.length_map]; exact hW.wl) (toPaths35 hW.k) (by rw [List.length_map]; exact hW.kl) hW.a hW.al e
  rw [List.length_map, List.length_map] at hc
  refine hc.mono fun e' w' hh => ?_
  obtain ⟨v2, v3, v4, rfl, r2, r3, r4, hb'⟩ := hh
  obtain ⟨B2, d2, rfl, l2, s2⟩ := Kd.R_reads r2
  obtain ⟨B3, d3, rfl, l3, s3⟩ := Kd.R_reads r3
  obtain ⟨B4, d4, rfl, l4, s4⟩ := Kd.R_reads r4
  have t2 := ofPaths33 s2
  have t3 := ofPaths35 s3
  rw [List.length_map] at l2 l3
  exact ⟨B2, d2, B3, d3, B4, d4, by rw [List.length_map, List.length_map], ⟨t2, l2, t3, l3, s4, l4⟩, hb'⟩
end Go.Proofs.YtehcgojcmcahnaaDoor.Cf
