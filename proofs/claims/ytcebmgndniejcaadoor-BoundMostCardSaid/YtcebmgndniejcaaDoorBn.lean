/- Layer 21 (bound): queuing, Serve, Cycle, Wait, Bound: what they come to. -/
import Derived.Test.YtcebmgndniejcaaDoorWm
import Derived.Deep.RegionHeld3
set_option linter.unusedVariables false
set_option linter.unusedSimpArgs false
namespace Go.Proofs.YtcebmgndniejcaaDoor.Wn
open Go Go.RowKit Go.Shelf Go.Proofs.YtcebmgndniejcaaDoorW.PrintWords Go.Proofs.YtcebmgndniejcaaDoorW.PrintLast Go.Proofs.YtcebmgndniejcaaDoorW.PrintMore Go.Proofs.YtcebmgndniejcaaDoor.Cz Go.Proofs.YtcebmgndniejcaaDoor.PBoundWaits Go.Proofs.YtcebmgndniejcaaDoor.Cf Go.Proofs.YtcebmgndniejcaaDoor.Sat
attribute [local go_sem] max2_int min2_int max_two min_two max_three min_three max_four min_four Tryd.underlying26 Tryd.underlying41 Tryd.underlying43
/-! In plain words. -/
/-- The queuing channels of a config that may be. -/
def quN (C : Cfg) : List Int := if okB C = true then qs C else []
theorem quN_len (C : Cfg) : (quN C).length ≤ C.ks.length := by
  unfold quN
  split
  · exact qu_len C.ks C.ks.length
  · exact Nat.zero_le _
/-- Where one stands first in a row; -1: nowhere. -/
def idxF (x : Int) : List Int → Int → Int
  | [], _ => -1
  | a :: t, i => if x = a then i else idxF x t (i + 1)
def idxN (x : Int) (l : List Int) : Int := idxF x l 0
theorem idxF_bd (x : Int) : ∀ (l : List Int) (i : Int), 0 ≤ i → -1 ≤ idxF x l i ∧ idxF x l i < i + l.length
  | [], i, h => ⟨Int.le_refl _, by show (-1 : Int) < i + (0 : Nat); omega⟩
  | a :: t, i, h => by
    show -1 ≤ (if x = a then i else idxF x t (i + 1)) ∧ (if x = a then i else idxF x t (i + 1)) < i + ((t.length + 1 : Nat) : Int)
    have := idxF_bd x t (i + 1) (by omega)
    split <;> omega
theorem idxN_bd (x : Int) (l : List Int) : -1 ≤ idxN x l ∧ idxN x l < l.length := by
  have := idxF_bd x l 0 (Int.le_refl _)
  unfold idxN
  omega
def clip (n : Int) : Int := if 100 < (if n < 1 then 1 else n) then 100 else (if n < 1 then 1 else n)
theorem clip_bd (n : Int) : 1 ≤ clip n ∧ clip n ≤ 100 := by
  unfold clip
  split <;> split <;> omega
/-- The number of the router's tick. -/
def srvAt (L at_ first n : Int) : Int := tadd first (Int.tmod (at_ - Int.tmod first L + L) L + L * (clip n - 1))
def serveN (C : Cfg) (ch now n : Int) : Int := if idxN ch (quN C) < 0 then -1 else if countN C (-1) = 0 then -1 else nthN C (-1) (srvAt (quN C).length (idxN ch (quN C)) (beforeN C (-1) now) n)
theorem tadd_bd (a b : Int) : 0 ≤ tadd a b ∧ tadd a b ≤ 4611686018427387904 := cut_bd _
theorem nthN_bd (C : Cfg) (o m : Int) : -1 ≤ nthN C o m ∧ nthN C o m ≤ 4611686018427387904 := by
  unfold nthN
  split
  · omega
  · split
    · have := tadd_bd (tmul (cut m / countN C o) C.f) ‹Int›
      omega
    · omega
theorem serveN_bd (C : Cfg) (ch now n : Int) : -1 ≤ serveN C ch now n ∧ serveN C ch now n ≤ 4611686018427387904 := by
  unfold serveN
  split
  · omega
  · split
    · omega
    · exact nthN_bd _ _ _
def one1 (n : Int) : Int := if n < 1 then 1 else n
def cycN (C : Cfg) : Int := if okB C = true then C.f * one1 (quN C).length else -1
theorem cycN_bd (C : Cfg) (lk : C.ks.length ≤ 1000) : -1 ≤ cycN C ∧ cycN C ≤ 64000 := by
  unfold cycN
  split
  · rename_i h
    have h1 := (ok_hd h).2.1
    have h2 := quN_len C
    have h3 : 1 ≤ one1 (quN C).length ∧ one1 (quN C).length ≤ 1000 := by unfold one1; split <;> omega
    have h4 := Int.mul_nonneg (show 0 ≤ C.f by omega) (show 0 ≤ one1 (quN C).length by omega)
    have h5 : C.f * one1 (quN C).length ≤ 64 * 1000 := Int.mul_le_mul h1.2 h3.2 (by omega) (by omega)
    omega
  · omega
/-- The longest wait from the ticks below one. -/
def noteN (m t s : Int) : Int := if 0 ≤ s then (if m < s - t then s - t else m) else m
def waitTo (C : Cfg) (ch n : Int) : Nat → Int
  | 0 => -1
  | t + 1 => noteN (waitTo C ch n t) t (serveN C ch t n)
def waitN (C : Cfg) (ch n : Int) : Int := waitTo C ch n (cycN C).toNat
theorem noteN_bd {m t s : Int} (hm : -1000000 ≤ m ∧ m ≤ 4611686018427387904) (ht : 0 ≤ t ∧ t ≤ 64000) (hs : -1 ≤ s ∧ s ≤ 4611686018427387904) : -1000000 ≤ noteN m t s ∧ noteN m t s ≤ 4611686018427387904 := by
  unfold noteN
  split
  · split <;> omega
  · omega
theorem waitTo_bd (C : Cfg) (ch n : Int) : ∀ t : Nat, t ≤ 64000 → -1000000 ≤ waitTo C ch n t ∧ waitTo C ch n t ≤ 4611686018427387904
  | 0, _ => by show -1000000 ≤ (-1 : Int) ∧ (-1 : Int) ≤ 4611686018427387904; omega
  | t + 1, h => noteN_bd (waitTo_bd C ch n t (by omega)) (by omega) (serveN_bd _ _ _ _)
def lf (C : Cfg) (ch : Int) : S43 := (C.ks[ch.toNat]?).getD ⟨0, 0, 0, 0, 0, 0, 0, 0, 0, 0, 0⟩
def boundN (C : Cfg) (ch lane : Int) : Int := if idxN ch (quN C) < 0 then -1 else if lane < 0 ∨ (lf C ch).f5 ≤ lane then -1 else
  if 0 < lane ∨ waitN C ch (lf C ch).f6 < 0 then (lf C ch).f8 else if waitN C ch (lf C ch).f6 + 1 < (lf C ch).f8 then waitN C ch (lf C ch).f6 + 1 else (lf C ch).f8
set_option maxHeartbeats 16000000 in
set_option maxRecDepth 100000 in
theorem index_any {l : List Int} {A : Option Addr} {d : Nat} {w : World} (h : Kd.C (Kd.int .i64) w A l.length l) (hl : l.length ≤ 1000) (x : Int) :
    Calls Tryd.prog 25 #[.slice A l.length d, .int .i64 x] w fun e w' => e = .returned (.int .i64 (idxN x l)) ∧ w = w' := by
  have HC := Aside0.mk h
  obtain ⟨res, hres⟩ : ∃ r, idxN x l = r := ⟨_, rfl⟩
  rw [hres]
  have HR : Aside0 (idxF x (l.drop 0) 0 = res) := ⟨hres⟩
  clear h hres
  go_enter Tryd.func25, Tryd.ntmps25
  go_wp2
  go_loopw [8] (fun v8 wr => ∃ j : Nat, v8 = .int .i64 j ∧ j ≤ l.length ∧ Aside0 (w = wr) ∧ Aside0 (idxF x (l.drop j) j = res)) (fun v8 _ => l.length - (intOf v8).toNat)
  case atStart => exact ⟨0, rfl, by omega, ⟨rfl⟩, HR⟩
  case round =>
    clear HR
    rename_i gv8
    obtain ⟨j, rfl, hj, HW, HF⟩ := hrel
    have hw := HW.out
    subst hw
    clear HW
    by_cases hlt : j < l.length
    · have d1 : decide ((j : Int) < (l.length : Int)) = true := decide_eq_true (by omega)
      have d1n : decide (j < l.length) = true := decide_eq_true hlt
      have hj0 : 0 ≤ (j : Int) := by omega
      have hj1 : (j : Int) < l.length := by omega
      obtain ⟨ad, rfl, hcell⟩ := Kd.at_int HC.out (j : Int) hj0 hj1
      have hs : (if x = l[j] then (j : Int) else idxF x (l.drop (j + 1)) (j + 1)) = res := by have := HF.out; rw [List.drop_eq_getElem_cons hlt] at this; exact this
      rw [show rd l (j : Int) = l[j] by simp [rd, hlt], Int.toNat_natCast] at hcell
      generalize l[j] = a at hcell hs
      have HS := Aside0.mk hs
      clear hs
      by_cases hxa : x = a
      · have q1 : decide (x = a) = true := decide_eq_true hxa
        have q2 : (x == a) = true := beq_iff_eq.mpr hxa
        have HS2 := Aside0.mk ((if_pos hxa).symm.trans HS.out)
        clear hxa
        go_wp2
        go_ret
        exact ⟨by rw [← HS2.out]; rfl, rfl⟩
      · have q1 : decide (x = a) = false := decide_eq_false hxa
        have q2 : (x == a) = false := beq_eq_false_iff_ne.mpr hxa
        have HS2 := Aside0.mk ((if_neg hxa).symm.trans HS.out)
        clear hxa
        go_wp2
        go_roundw
        case rel => exact ⟨j + 1, by go_num, by omega, ⟨by trivial⟩, ⟨by have := HS2.out; simpa using this⟩⟩
        case measure => simp [intOf]; omega
    · have d1 : decide ((j : Int) < (l.length : Int)) = false := decide_eq_false (by omega)
      have d1n : decide (j < l.length) = false := decide_eq_false hlt
      obtain rfl : j = l.length := by omega
      rw [List.drop_length] at HF
      go_wp2
      go_ret
      exact ⟨by rw [← HF.out]; rfl, rfl⟩
set_option maxHeartbeats 16000000 in
set_option maxRecDepth 100000 in
theorem contains_any {l : List Int} {A : Option Addr} {d : Nat} {w : World} (h : Kd.C (Kd.int .i64) w A l.length l) (hl : l.length ≤ 1000) (x : Int) :
    Calls Tryd.prog 37 #[.slice A l.length d, .int .i64 x] w fun e w' => e = .returned (.bool (decide (0 ≤ idxN x l))) ∧ w = w' := by
  have HI := Aside0.mk (index_any (d := d) h hl x)
  generalize idxN x l = i at HI ⊢
  clear h
  go_enter Tryd.func37, Tryd.ntmps37
  go_wp2_with (first | (go_at_call 25; (with_reducible refine HI.out.mono ?_); rintro e w2 ⟨rfl, rfl⟩))
  go_ret
  exact ⟨rfl, rfl⟩
set_option maxHeartbeats 16000000 in
set_option maxRecDepth 100000 in
theorem queuing_any {C : Cfg} {A2 A3 A4 : Option Addr} {c2 c3 c4 : Nat} {w : World} (hX : CX w C A2 c2 A3 c3 A4 c4) (hg : LG w) (lk : C.ks.length ≤ 1000) (la : C.ac.length ≤ 1000) (lw : C.ws.length ≤ 1000) :
    Calls Tryd.prog 24 #[.agg #[.int .i64 C.p, .int .i64 C.f, .slice A2 C.ws.length c2, .slice A3 C.ks.length c3, .slice A4 C.ac.length c4]] w fun e w' => ∃ (Bq : Option Addr) (dq : Nat), e = .returned (.slice Bq (quN C).length dq) ∧ Kd.C (Kd.int .i64) w' Bq (quN C).length (quN C) ∧ Below w.heap.size w w' := by
  have CC : Aside0 (∀ W : World, Below w.heap.size w W → Calls Tryd.prog 35 #[.agg #[.int .i64 C.p, .int .i64 C.f, .slice A2 C.ws.length c2, .slice A3 C.ks.length c3, .slice A4 C.ac.length c4]] W fun e w' => e = .returned (.tuple #[.agg #[.int .i64 (chk C).a, .int .i64 (chk C).b], .int .i64 (chk C).e]) ∧ Below W.heap.size W w') := ⟨fun W hb => check_any (hX.below hb) (hg.below hb) lk la lw⟩
  have HX := Aside0.mk hX.k
  have hql := qu_len C.ks C.ks.length
  have hok : okB C = ((chk C).e == 0) := rfl
  generalize (chk C).e = ec at CC hok
  generalize (chk C).a = ea at CC
  generalize (chk C).b = eb at CC
  clear hX hg la lw
  have H1 : Aside0 ((w.alloc (.cells #[.int .i64 C.p, .int .i64 C.f, .slice A2 C.ws.length c2, .slice A3 C.ks.length c3, .slice A4 C.ac.length c4] 26)).heap[w.heap.size]? = some (.cells #[.int .i64 C.p, .int .i64 C.f, .slice A2 C.ws.length c2, .slice A3 C.ks.length c3, .slice A4 C.ac.length c4] 26 (0, 0)) ∧ Below w.heap.size w (w.alloc (.cells #[.int .i64 C.p, .int .i64 C.f, .slice A2 C.ws.length c2, .slice A3 C.ks.length c3, .slice A4 C.ac.length c4] 26))) := ⟨⟨blk_new _ _, below_alloc (Below.refl _ _) _⟩⟩
  have b0 := (blk_cell H1.out.1 0).trans (show _ = some (.int .i64 C.p) from rfl)
  have b1 := (blk_cell H1.out.1 1).trans (show _ = some (.int .i64 C.f) from rfl)
  have b2 := (blk_cell H1.out.1 2).trans (show _ = some (.slice A2 C.ws.length c2) from rfl)
  have b3 := (blk_cell H1.out.1 3).trans (show _ = some (.slice A3 C.ks.length c3) from rfl)
  have b4 := (blk_cell H1.out.1 4).trans (show _ = some (.slice A4 C.ac.length c4) from rfl)
  by_cases he : ec = 0
  · subst he
    have hqn : quN C = qs C := by unfold quN; rw [if_pos (show okB C = true from hok)]
    rw [hqn]
    clear hqn hok
    go_enter Tryd.func24, Tryd.ntmps24
    go_upto_region 5 with (first | (go_at_call 35; (with_reducible refine (CC.out _ H1.out.2).mono ?_); rintro e w2 ⟨rfl, hb⟩; have H2 := Aside0.mk (And.intro (blk_below H1.out.1 hb) (below_step H1.out.2 hb)); clear hb b0 b1 b2 b3 b4; have b0 := (blk_cell H2.out.1 0).trans (show _ = some (.int .i64 C.p) from rfl); have b1 := (blk_cell H2.out.1 1).trans (show _ = some (.int .i64 C.f) from rfl); have b2 := (blk_cell H2.out.1 2).trans (show _ = some (.slice A2 C.ws.length c2) from rfl); have b3 := (blk_cell H2.out.1 3).trans (show _ = some (.slice A3 C.ks.length c3) from rfl); have b4 := (blk_cell H2.out.1 4).trans (show _ = some (.slice A4 C.ac.length c4) from rfl)))
    have H3 : Aside0 ((w2.alloc (.cells #[.int .i64 ea, .int .i64 eb] 52)).heap[w.heap.size]? = some (.cells #[.int .i64 C.p, .int .i64 C.f, .slice A2 C.ws.length c2, .slice A3 C.ks.length c3, .slice A4 C.ac.length c4] 26 (0, 0)) ∧ Below w.heap.size w (w2.alloc (.cells #[.int .i64 ea, .int .i64 eb] 52))) := ⟨⟨blk_alloc H2.out.1 _, below_alloc H2.out.2 _⟩⟩
    clear b0 b1 b2 b3 b4 H2 H1 CC
    revert H3
    generalize (w2.alloc (.cells #[.int .i64 ea, .int .i64 eb] 52)) = w3
    intro H3
    have b0 := (blk_cell H3.out.1 0).trans (show _ = some (.int .i64 C.p) from rfl)
    have b1 := (blk_cell H3.out.1 1).trans (show _ = some (.int .i64 C.f) from rfl)
    have b2 := (blk_cell H3.out.1 2).trans (show _ = some (.slice A2 C.ws.length c2) from rfl)
    have b3 := (blk_cell H3.out.1 3).trans (show _ = some (.slice A3 C.ks.length c3) from rfl)
    have b4 := (blk_cell H3.out.1 4).trans (show _ = some (.slice A4 C.ac.length c4) from rfl)
    go_wp2
    go_loopw [3, 18] (fun v3 v18 wr => ∃ j : Nat, v18 = .int .i64 j ∧ j ≤ C.ks.length ∧ Aside0 (SS w wr v3 (qu C.ks j) #[.int .i64 C.p, .int .i64 C.f, .slice A2 C.ws.length c2, .slice A3 C.ks.length c3, .slice A4 C.ac.length c4])) (fun _ v18 _ => C.ks.length - (intOf v18).toNat)
    case atStart => exact ⟨0, rfl, by omega, ⟨⟨H3.out.1, Kd.R_nil _ _ _ _ _, H3.out.2⟩⟩⟩
    case round =>
      clear b0 b1 b2 b3 b4 H3
      rename_i gv3 gv18
      obtain ⟨j, rfl, hj, HI⟩ := hrel
      by_cases hlt : j < C.ks.length
      · have d1 : decide ((j : Int) < (C.ks.length : Int)) = true := decide_eq_true (by omega)
        have d1n : decide (j < C.ks.length) = true := decide_eq_true hlt
        have hcs := at_T43 (Kd.C_below HX.out HI.out.bel) (j : Int) (by omega) (by omega)
        rw [show rd_T43 C.ks (j : Int) = C.ks[j] by simp [rd_T43, hlt], Int.toNat_natCast] at hcs
        have HY := Aside0.mk (fun h => qu_yes (ks := C.ks) hlt h)
        have HN := Aside0.mk (fun h => qu_no (ks := C.ks) hlt h)
        have hjl := qu_len C.ks j
        generalize C.ks[j] = x at hcs HY HN
        obtain ⟨x0, x1, x2, x3, x4, x5, x6, x7, x8, x9, x10⟩ := x
        obtain ⟨ad, rfl, e0, e1, e2, e3, e4, e5, e6, e7, e8, e9, e10⟩ := hcs
        simp only [] at e0 e1 e2 e3 e4 e5 e6 e7 e8 e9 e10 HY HN
        have hj0 : 0 ≤ (j : Int) := by omega
        have hj1 : (j : Int) < C.ks.length := by omega
        have HI2 := Aside0.mk (HI.out.far (below_alloc (Below.refl wr.heap.size wr) (.cells #[.int .i64 x0, .int .i64 x1, .int .i64 x2, .int .i64 x3, .int .i64 x4, .int .i64 x5, .int .i64 x6, .int .i64 x7, .int .i64 x8, .int .i64 x9, .int .i64 x10] 43)))
        by_cases hk : x0 = 1
        · have q1 : decide (x0 = 1) = true := decide_eq_true hk
          have q2 : (x0 == 1) = true := beq_iff_eq.mpr hk
          have HYY := Aside0.mk (HY.out hk)
          clear hk
          have hx0 : (wr.alloc (.cells #[.int .i64 x0, .int .i64 x1, .int .i64 x2, .int .i64 x3, .int .i64 x4, .int .i64 x5, .int .i64 x6, .int .i64 x7, .int .i64 x8, .int .i64 x9, .int .i64 x10] 43)).cell? ⟨wr.heap.size, 0, none⟩ = some (.int .i64 x0) := (blk_cell (blk_new wr _) 0).trans rfl
          go_upto_region 8 with (first | fail)
          revert HI2 hx0
          generalize (wr.alloc (.cells #[.int .i64 x0, .int .i64 x1, .int .i64 x2, .int .i64 x3, .int .i64 x4, .int .i64 x5, .int .i64 x6, .int .i64 x7, .int .i64 x8, .int .i64 x9, .int .i64 x10] 43)) = w5
          generalize wr.heap.size = cb
          intro HI2 hx0
          go_wp2_with (first | ((with_reducible refine gate_builtin (b := .append) (xs := #[.tmp 26, .tmp 28]) rfl ?_); at_builtin; refine Kd.R_append (Kd.int .i64) (w0 := w) w.heap.size rfl (.tmp 26) (.tmp 28) 24 3 (.int .i64 0) 8 rfl Tryd.underlying24 info3 rfl (by decide) (by omega) _ (qu C.ks j) (j : Int) [.int .i64 j] (fun k => w.heap.size ≤ k) (fun _ => False) rfl rfl ?aP (fun _ hk => hk.elim) ?aF HI2.out.r HI2.out.bel ?aS ?aL ?_; (case aP => exact rfl); (case aF => exact (fun k hk => Nat.le_trans HI2.out.bel.size hk)); (case aS => exact HI2.out.bel.size); (case aL => omega); intro v9 w9 ho hb hg9 hat; have HI9 : Aside0 (SS w w9 v9 (qu C.ks j ++ [(j : Int)]) _) := ⟨blk_grown HI2.out.bg hg9 (Kd.R_ne HI2.out.r HI2.out.bg (by decide)), ho, hb⟩; clear ho hb hg9 hat))
          go_roundw
          case rel => exact ⟨j + 1, by go_num, by omega, by rw [HYY.out]; exact HI9⟩
          case measure => simp [intOf]; omega
        · have q1 : decide (x0 = 1) = false := decide_eq_false hk
          have q2 : (x0 == 1) = false := beq_eq_false_iff_ne.mpr hk
          have HNN := Aside0.mk (HN.out hk)
          clear hk
          have hx0 : (wr.alloc (.cells #[.int .i64 x0, .int .i64 x1, .int .i64 x2, .int .i64 x3, .int .i64 x4, .int .i64 x5, .int .i64 x6, .int .i64 x7, .int .i64 x8, .int .i64 x9, .int .i64 x10] 43)).cell? ⟨wr.heap.size, 0, none⟩ = some (.int .i64 x0) := (blk_cell (blk_new wr _) 0).trans rfl
          go_upto_region 8 with (first | fail)
          revert HI2 hx0
          generalize (wr.alloc (.cells #[.int .i64 x0, .int .i64 x1, .int .i64 x2, .int .i64 x3, .int .i64 x4, .int .i64 x5, .int .i64 x6, .int .i64 x7, .int .i64 x8, .int .i64 x9, .int .i64 x10] 43)) = w5
          generalize wr.heap.size = cb
          intro HI2 hx0
          go_wp2
          go_roundw
          case rel => exact ⟨j + 1, by go_num, by omega, by rw [HNN.out]; exact HI2⟩
          case measure => simp [intOf]; omega
      · have d1 : decide ((j : Int) < (C.ks.length : Int)) = false := decide_eq_false (by omega)
        have d1n : decide (j < C.ks.length) = false := decide_eq_false hlt
        obtain rfl : j = C.ks.length := by omega
        have hqq : qu C.ks C.ks.length = qs C := rfl
        rw [hqq] at HI hql
        clear hqq
        obtain ⟨B, d, rfl, hd, hcq⟩ := Kd.R_reads HI.out.r
        have HCQ := Aside0.mk hcq
        clear hcq
        go_wp2
        go_ret
        exact ⟨_, _, rfl, HCQ.out, HI.out.bel⟩
  · have d1 : decide (ec = 0) = false := decide_eq_false he
    have d2 : (ec == 0) = false := beq_eq_false_iff_ne.mpr he
    have hqn : quN C = [] := by unfold quN; rw [if_neg (by rw [hok, d2]; decide)]
    rw [hqn]
    clear hqn hok he
    go_enter Tryd.func24, Tryd.ntmps24
    go_wp2_with (first | (go_at_call 35; (with_reducible refine (CC.out _ H1.out.2).mono ?_); rintro e w2 ⟨rfl, hb⟩; have H2 := Aside0.mk (And.intro (blk_below H1.out.1 hb) (below_step H1.out.2 hb)); clear hb b0 b1 b2 b3 b4))
    go_ret
    exact ⟨none, 0, rfl, Kd.C_nil _ _, by first | exact H2.out.2 | exact below_alloc H2.out.2 _⟩
set_option maxHeartbeats 16000000 in
set_option maxRecDepth 100000 in
theorem serve_any {C : Cfg} {A2 A3 A4 : Option Addr} {c2 c3 c4 : Nat} {w : World} (hX : CX w C A2 c2 A3 c3 A4 c4) (hg : LG w) (lk : C.ks.length ≤ 1000) (la : C.ac.length ≤ 1000) (lw : C.ws.length ≤ 1000) (ch now n : Int) :
    Calls Tryd.prog 11 #[.agg #[.int .i64 C.p, .int .i64 C.f, .slice A2 C.ws.length c2, .slice A3 C.ks.length c3, .slice A4 C.ac.length c4], .int .i64 ch, .int .i64 now, .int .i64 n] w fun e w' => e = .returned (.int .i64 (serveN C ch now n)) ∧ Below w.heap.size w w' := by
  have CQ : Aside0 (∀ W : World, Below w.heap.size w W → Calls Tryd.prog 24 #[.agg #[.int .i64 C.p, .int .i64 C.f, .slice A2 C.ws.length c2, .slice A3 C.ks.length c3, .slice A4 C.ac.length c4]] W fun e w' => ∃ (Bq : Option Addr) (dq : Nat), e = .returned (.slice Bq (quN C).length dq) ∧ Kd.C (Kd.int .i64) w' Bq (quN C).length (quN C) ∧ Below W.heap.size W w') := ⟨fun W hb => queuing_any (hX.below hb) (hg.below hb) lk la lw⟩
  have CC : Aside0 (∀ W : World, Below w.heap.size w W → Calls Tryd.prog 26 #[.agg #[.int .i64 C.p, .int .i64 C.f, .slice A2 C.ws.length c2, .slice A3 C.ks.length c3, .slice A4 C.ac.length c4], .int .i64 (-1)] W fun e w' => e = .returned (.int .i64 (countN C (-1))) ∧ Below W.heap.size W w') := ⟨fun W hb => count_any (hX.below hb) (hg.below hb) lk la lw (-1)⟩
  have CB : Aside0 (∀ W : World, Below w.heap.size w W → Calls Tryd.prog 27 #[.agg #[.int .i64 C.p, .int .i64 C.f, .slice A2 C.ws.length c2, .slice A3 C.ks.length c3, .slice A4 C.ac.length c4], .int .i64 (-1), .int .i64 now] W fun e w' => e = .returned (.int .i64 (beforeN C (-1) now)) ∧ Below W.heap.size W w') := ⟨fun W hb => before_any (hX.below hb) (hg.below hb) lk la lw (-1) now⟩
  have CN : Aside0 (∀ (m : Int) (W : World), Below w.heap.size w W → Calls Tryd.prog 28 #[.agg #[.int .i64 C.p, .int .i64 C.f, .slice A2 C.ws.length c2, .slice A3 C.ks.length c3, .slice A4 C.ac.length c4], .int .i64 (-1), .int .i64 m] W fun e w' => e = .returned (.int .i64 (nthN C (-1) m)) ∧ Below W.heap.size W w') := ⟨fun m W hb => nth_any (hX.below hb) (hg.below hb) lk la lw (-1) m⟩
  have HV : Aside0 (serveN C ch now n = if idxN ch (quN C) < 0 then -1 else if countN C (-1) = 0 then -1 else nthN C (-1) (srvAt (quN C).length (idxN ch (quN C)) (beforeN C (-1) now) n)) := ⟨rfl⟩
  have hix := idxN_bd ch (quN C)
  have hql := quN_len C
  have IX := Aside0.mk (fun (W : World) (A : Option Addr) (d : Nat) (hc : Kd.C (Kd.int .i64) W A (quN C).length (quN C)) => index_any (d := d) hc (by omega) ch)
  have hbd := before_bd C (-1) now
  generalize serveN C ch now n = res at HV ⊢
  generalize beforeN C (-1) now = first at CB HV hbd
  generalize countN C (-1) = K at CC HV
  generalize idxN ch (quN C) = at_ at HV hix IX
  have hL : (quN C).length ≤ 1000 := by omega
  clear hX hg lk la lw hql
  have H1 : Aside0 ((w.alloc (.cells #[.int .i64 C.p, .int .i64 C.f, .slice A2 C.ws.length c2, .slice A3 C.ks.length c3, .slice A4 C.ac.length c4] 26)).heap[w.heap.size]? = some (.cells #[.int .i64 C.p, .int .i64 C.f, .slice A2 C.ws.length c2, .slice A3 C.ks.length c3, .slice A4 C.ac.length c4] 26 (0, 0)) ∧ Below w.heap.size w (w.alloc (.cells #[.int .i64 C.p, .int .i64 C.f, .slice A2 C.ws.length c2, .slice A3 C.ks.length c3, .slice A4 C.ac.length c4] 26))) := ⟨⟨blk_new _ _, below_alloc (Below.refl _ _) _⟩⟩
  have b0 := (blk_cell H1.out.1 0).trans (show _ = some (.int .i64 C.p) from rfl)
  have b1 := (blk_cell H1.out.1 1).trans (show _ = some (.int .i64 C.f) from rfl)
  have b2 := (blk_cell H1.out.1 2).trans (show _ = some (.slice A2 C.ws.length c2) from rfl)
  have b3 := (blk_cell H1.out.1 3).trans (show _ = some (.slice A3 C.ks.length c3) from rfl)
  have b4 := (blk_cell H1.out.1 4).trans (show _ = some (.slice A4 C.ac.length c4) from rfl)
  by_cases ha : at_ < 0
  · have d1 : decide (at_ < 0) = true := decide_eq_true ha
    have HR : Aside0 (res = -1) := ⟨by rw [HV.out, if_pos ha]⟩
    clear HV ha hbd
    generalize quN C = q at CQ IX hL
    go_enter Tryd.func11, Tryd.ntmps11
    go_wp2_with (first | (go_at_call 24; (with_reducible refine (CQ.out _ H1.out.2).mono ?_); rintro e w2 ⟨Bq, dq, rfl, hcq, hb⟩; have H2 := Aside0.mk (And.intro (blk_below H1.out.1 hb) (below_step H1.out.2 hb)); clear hb b0 b1 b2 b3 b4; have b0 := (blk_cell H2.out.1 0).trans (show _ = some (.int .i64 C.p) from rfl); have b1 := (blk_cell H2.out.1 1).trans (show _ = some (.int .i64 C.f) from rfl); have b2 := (blk_cell H2.out.1 2).trans (show _ = some (.slice A2 C.ws.length c2) from rfl); have b3 := (blk_cell H2.out.1 3).trans (show _ = some (.slice A3 C.ks.length c3) from rfl); have b4 := (blk_cell H2.out.1 4).trans (show _ = some (.slice A4 C.ac.length c4) from rfl); have HQ := Aside0.mk hcq; clear hcq) | (go_at_call 25; (with_reducible refine (IX.out _ _ _ HQ.out).mono ?_); rintro e w3 ⟨rfl, rfl⟩))
    go_ret
    exact ⟨by rw [HR.out]; rfl, H2.out.2⟩
  · have d1 : decide (at_ < 0) = false := decide_eq_false ha
    by_cases hK : K = 0
    · have d2 : decide (K = 0) = true := decide_eq_true hK
      have d3 : (K == 0) = true := beq_iff_eq.mpr hK
      have HR : Aside0 (res = -1) := ⟨by rw [HV.out, if_neg ha, if_pos hK]⟩
      clear HV ha hbd hK
      generalize quN C = q at CQ IX hL
      go_enter Tryd.func11, Tryd.ntmps11
      go_wp2_with (first | (go_at_call 24; (with_reducible refine (CQ.out _ H1.out.2).mono ?_); rintro e w2 ⟨Bq, dq, rfl, hcq, hb⟩; have H2 := Aside0.mk (And.intro (blk_below H1.out.1 hb) (below_step H1.out.2 hb)); clear hb b0 b1 b2 b3 b4; have b0 := (blk_cell H2.out.1 0).trans (show _ = some (.int .i64 C.p) from rfl); have b1 := (blk_cell H2.out.1 1).trans (show _ = some (.int .i64 C.f) from rfl); have b2 := (blk_cell H2.out.1 2).trans (show _ = some (.slice A2 C.ws.length c2) from rfl); have b3 := (blk_cell H2.out.1 3).trans (show _ = some (.slice A3 C.ks.length c3) from rfl); have b4 := (blk_cell H2.out.1 4).trans (show _ = some (.slice A4 C.ac.length c4) from rfl); have HQ := Aside0.mk hcq; clear hcq) | (go_at_call 25; (with_reducible refine (IX.out _ _ _ HQ.out).mono ?_); rintro e w3 ⟨rfl, rfl⟩) | (go_at_call 26; (with_reducible refine (CC.out _ H2.out.2).mono ?_); rintro e w3 ⟨rfl, hb⟩; have H3 := Aside0.mk (And.intro (blk_below H2.out.1 hb) (below_step H2.out.2 hb)); clear hb b0 b1 b2 b3 b4; have b0 := (blk_cell H3.out.1 0).trans (show _ = some (.int .i64 C.p) from rfl); have b1 := (blk_cell H3.out.1 1).trans (show _ = some (.int .i64 C.f) from rfl); have b2 := (blk_cell H3.out.1 2).trans (show _ = some (.slice A2 C.ws.length c2) from rfl); have b3 := (blk_cell H3.out.1 3).trans (show _ = some (.slice A3 C.ks.length c3) from rfl); have b4 := (blk_cell H3.out.1 4).trans (show _ = some (.slice A4 C.ac.length c4) from rfl)))
      go_ret
      exact ⟨by rw [HR.out]; rfl, H3.out.2⟩
    · have d2 : decide (K = 0) = false := decide_eq_false hK
      have d3 : (K == 0) = false := beq_eq_false_iff_ne.mpr hK
      have HR : Aside0 (res = nthN C (-1) (tadd first (Int.tmod (at_ - Int.tmod first ((quN C).length : Int) + ((quN C).length : Int)) ((quN C).length : Int) + ((quN C).length : Int) * (clip n - 1)))) := ⟨by rw [HV.out, if_neg ha, if_neg hK]; rfl⟩
      clear HV
      generalize quN C = q at CQ IX hL hix HR
      obtain ⟨L, hLL⟩ : ∃ L, q.length = L := ⟨_, rfl⟩
      rw [hLL] at CQ hL hix HR IX
      have h0L : 0 < L := by omega
      have hat0 : 0 ≤ at_ := by omega
      have hat1 : at_ < L := by omega
      have hcl := clip_bd n
      obtain ⟨m1, hm1⟩ : ∃ m, (if n < 1 then 1 else n) = m := ⟨_, rfl⟩
      have hm2 : (if 100 < m1 then 100 else m1) = clip n := by rw [← hm1]; rfl
      generalize clip n = m2 at hm2 hcl HR
      obtain ⟨hc1, hc2⟩ := hcl
      obtain ⟨p, hp⟩ : ∃ p, (L : Int) * (m2 - 1) = p := ⟨_, rfl⟩
      have hp0 : 0 ≤ p := by rw [← hp]; exact Int.mul_nonneg (by omega) (by omega)
      have hp1 : p ≤ 1000 * 1000 := by rw [← hp]; exact Int.mul_le_mul (by omega) (by omega) (by omega) (by omega)
      have r0 : 0 ≤ Int.tmod first (L : Int) := Int.tmod_nonneg _ hbd.1
      have r1 : Int.tmod first (L : Int) < L := Int.tmod_lt_of_pos _ (by omega)
      generalize hr : Int.tmod first (L : Int) = r at r0 r1 HR
      have s0 : 0 ≤ Int.tmod (at_ - r + L) (L : Int) := Int.tmod_nonneg _ (by omega)
      have s1 : Int.tmod (at_ - r + L) (L : Int) < L := Int.tmod_lt_of_pos _ (by omega)
      generalize hs : Int.tmod (at_ - r + L) (L : Int) = s at s0 s1 HR
      rw [hp] at HR
      have hnz : (L : Int) ≠ 0 := by omega
      have g1 : decide ((L : Int) = 0) = false := decide_eq_false hnz
      have g2 : ((L : Int) == 0) = false := beq_eq_false_iff_ne.mpr hnz
      have g3 : decide (L = 0) = false := decide_eq_false (by omega)
      have g4 : (L == 0) = false := beq_eq_false_iff_ne.mpr (by omega)
      have CNs := Aside0.mk (CN.out (tadd first (s + p)))
      have AX := Aside0.mk (fun W => add_any first (s + p) W)
      generalize tadd first (s + p) = m at CNs AX HR
      generalize nthN C (-1) m = rr at CNs HR
      clear ha hK hix CN
      obtain ⟨hb0, hb1⟩ := hbd
      go_enter Tryd.func11, Tryd.ntmps11
      go_upto_region 7 with (first | (go_at_call 24; (with_reducible refine (CQ.out _ H1.out.2).mono ?_); rintro e w2 ⟨Bq, dq, rfl, hcq, hb⟩; have H2 := Aside0.mk (And.intro (blk_below H1.out.1 hb) (below_step H1.out.2 hb)); clear hb b0 b1 b2 b3 b4; have b0 := (blk_cell H2.out.1 0).trans (show _ = some (.int .i64 C.p) from rfl); have b1 := (blk_cell H2.out.1 1).trans (show _ = some (.int .i64 C.f) from rfl); have b2 := (blk_cell H2.out.1 2).trans (show _ = some (.slice A2 C.ws.length c2) from rfl); have b3 := (blk_cell H2.out.1 3).trans (show _ = some (.slice A3 C.ks.length c3) from rfl); have b4 := (blk_cell H2.out.1 4).trans (show _ = some (.slice A4 C.ac.length c4) from rfl); have HQ := Aside0.mk hcq; clear hcq) | (go_at_call 25; (with_reducible refine (IX.out _ _ _ HQ.out).mono ?_); rintro e w3 ⟨rfl, rfl⟩) | (go_at_call 26; (with_reducible refine (CC.out _ H2.out.2).mono ?_); rintro e w3 ⟨rfl, hb⟩; have H3 := Aside0.mk (And.intro (blk_below H2.out.1 hb) (below_step H2.out.2 hb)); clear hb b0 b1 b2 b3 b4; have b0 := (blk_cell H3.out.1 0).trans (show _ = some (.int .i64 C.p) from rfl); have b1 := (blk_cell H3.out.1 1).trans (show _ = some (.int .i64 C.f) from rfl); have b2 := (blk_cell H3.out.1 2).trans (show _ = some (.slice A2 C.ws.length c2) from rfl); have b3 := (blk_cell H3.out.1 3).trans (show _ = some (.slice A3 C.ks.length c3) from rfl); have b4 := (blk_cell H3.out.1 4).trans (show _ = some (.slice A4 C.ac.length c4) from rfl)) | (go_at_call 27; (with_reducible refine (CB.out _ H3.out.2).mono ?_); rintro e w4 ⟨rfl, hb⟩; have H4 := Aside0.mk (And.intro (blk_below H3.out.1 hb) (below_step H3.out.2 hb)); clear hb b0 b1 b2 b3 b4; have b0 := (blk_cell H4.out.1 0).trans (show _ = some (.int .i64 C.p) from rfl); have b1 := (blk_cell H4.out.1 1).trans (show _ = some (.int .i64 C.f) from rfl); have b2 := (blk_cell H4.out.1 2).trans (show _ = some (.slice A2 C.ws.length c2) from rfl); have b3 := (blk_cell H4.out.1 3).trans (show _ = some (.slice A3 C.ks.length c3) from rfl); have b4 := (blk_cell H4.out.1 4).trans (show _ = some (.slice A4 C.ac.length c4) from rfl)))
      have TS := Aside0.mk (fun (W : World) (hb : Below w4.heap.size w4 W) => And.intro (cell_b b0 hb) (And.intro (cell_b b1 hb) (And.intro (cell_b b2 hb) (And.intro (cell_b b3 hb) (cell_b b4 hb)))))
      have HB := Aside0.mk (below_drew (Below.refl w4.heap.size w4))
      have i1 : IntKind.i64.wrap (m2 - 1) = m2 - 1 := IntWalk.i64_in _ (by omega)
      have i2 : IntKind.i64.wrap p = p := IntWalk.i64_in _ (by omega)
      have i3 : IntKind.i64.wrap (s + p) = s + p := IntWalk.i64_in _ (by omega)
      go_region_held3 (fun w' => w'.cell? ⟨w.heap.size, 0, none⟩ = some (.int .i64 C.p) ∧ w'.cell? ⟨w.heap.size, 1, none⟩ = some (.int .i64 C.f) ∧ w'.cell? ⟨w.heap.size, 2, none⟩ = some (.slice A2 C.ws.length c2) ∧ w'.cell? ⟨w.heap.size, 3, none⟩ = some (.slice A3 C.ks.length c3) ∧ w'.cell? ⟨w.heap.size, 4, none⟩ = some (.slice A4 C.ac.length c4)) (first | exact TS.out _ HB.out | exact TS.out _ (below_drew (Below.refl _ _)) | go_keep) (first | (go_at_call 29; (with_reducible refine (AX.out _).mono ?_); rintro e w5 ⟨rfl, rfl⟩) | (go_at_call 28; (with_reducible refine (CNs.out _ (below_step H4.out.2 HB.out)).mono ?_); rintro e w6 ⟨rfl, hb⟩; have HBn := Aside0.mk (below_step HB.out hb); clear HB; have HB := HBn; clear HBn; clear hb))
      all_goals
        go_wp2
        go_ret
        exact ⟨by rw [HR.out]; rfl, below_step H4.out.2 HB.out⟩
set_option maxHeartbeats 16000000 in
set_option maxRecDepth 100000 in
theorem cycle_any {C : Cfg} {A2 A3 A4 : Option Addr} {c2 c3 c4 : Nat} {w : World} (hX : CX w C A2 c2 A3 c3 A4 c4) (hg : LG w) (lk : C.ks.length ≤ 1000) (la : C.ac.length ≤ 1000) (lw : C.ws.length ≤ 1000) :
    Calls Tryd.prog 13 #[.agg #[.int .i64 C.p, .int .i64 C.f, .slice A2 C.ws.length c2, .slice A3 C.ks.length c3, .slice A4 C.ac.length c4]] w fun e w' => e = .returned (.int .i64 (cycN C)) ∧ Below w.heap.size w w' := by
  have CQ : Aside0 (∀ W : World, Below w.heap.size w W → Calls Tryd.prog 24 #[.agg #[.int .i64 C.p, .int .i64 C.f, .slice A2 C.ws.length c2, .slice A3 C.ks.length c3, .slice A4 C.ac.length c4]] W fun e w' => ∃ (Bq : Option Addr) (dq : Nat), e = .returned (.slice Bq (quN C).length dq) ∧ Kd.C (Kd.int .i64) w' Bq (quN C).length (quN C) ∧ Below W.heap.size W w') := ⟨fun W hb => queuing_any (hX.below hb) (hg.below hb) lk la lw⟩
  have CC : Aside0 (∀ W : World, Below w.heap.size w W → Calls Tryd.prog 35 #[.agg #[.int .i64 C.p, .int .i64 C.f, .slice A2 C.ws.length c2, .slice A3 C.ks.length c3, .slice A4 C.ac.length c4]] W fun e w' => e = .returned (.tuple #[.agg #[.int .i64 (chk C).a, .int .i64 (chk C).b], .int .i64 (chk C).e]) ∧ Below W.heap.size W w') := ⟨fun W hb => check_any (hX.below hb) (hg.below hb) lk la lw⟩
  have hok : okB C = ((chk C).e == 0) := rfl
  have hcb := cycN_bd C lk
  have hql := quN_len C
  have hL : (quN C).length ≤ 1000 := by omega
  generalize (chk C).e = ec at CC hok
  generalize (chk C).a = ea at CC
  generalize (chk C).b = eb at CC
  clear hX hg la lw hql
  have H1 : Aside0 ((w.alloc (.cells #[.int .i64 C.p, .int .i64 C.f, .slice A2 C.ws.length c2, .slice A3 C.ks.length c3, .slice A4 C.ac.length c4] 26)).heap[w.heap.size]? = some (.cells #[.int .i64 C.p, .int .i64 C.f, .slice A2 C.ws.length c2, .slice A3 C.ks.length c3, .slice A4 C.ac.length c4] 26 (0, 0)) ∧ Below w.heap.size w (w.alloc (.cells #[.int .i64 C.p, .int .i64 C.f, .slice A2 C.ws.length c2, .slice A3 C.ks.length c3, .slice A4 C.ac.length c4] 26))) := ⟨⟨blk_new _ _, below_alloc (Below.refl _ _) _⟩⟩
  have b0 := (blk_cell H1.out.1 0).trans (show _ = some (.int .i64 C.p) from rfl)
  have b1 := (blk_cell H1.out.1 1).trans (show _ = some (.int .i64 C.f) from rfl)
  have b2 := (blk_cell H1.out.1 2).trans (show _ = some (.slice A2 C.ws.length c2) from rfl)
  have b3 := (blk_cell H1.out.1 3).trans (show _ = some (.slice A3 C.ks.length c3) from rfl)
  have b4 := (blk_cell H1.out.1 4).trans (show _ = some (.slice A4 C.ac.length c4) from rfl)
  by_cases he : ec = 0
  · subst he
    have hcy : cycN C = C.f * one1 (quN C).length := by unfold cycN; rw [if_pos (show okB C = true from hok)]
    rw [hcy] at hcb ⊢
    clear hcy hok
    generalize quN C = q at CQ hL hcb ⊢
    obtain ⟨L, hLL⟩ : ∃ L, q.length = L := ⟨_, rfl⟩
    rw [hLL] at CQ hL hcb ⊢
    clear hLL
    obtain ⟨m1, hm1⟩ : ∃ m, (if (L : Int) < 1 then 1 else (L : Int)) = m := ⟨_, rfl⟩
    have hmo : one1 L = m1 := hm1
    rw [hmo] at hcb ⊢
    clear hmo
    obtain ⟨hcb0, hcb1⟩ := hcb
    obtain ⟨p, hp⟩ : ∃ p, C.f * m1 = p := ⟨_, rfl⟩
    rw [hp] at hcb0 hcb1 ⊢
    go_enter Tryd.func13, Tryd.ntmps13
    go_upto_region 4 with (first | (go_at_call 35; (with_reducible refine (CC.out _ H1.out.2).mono ?_); rintro e w2 ⟨rfl, hb⟩; have H2 := Aside0.mk (And.intro (blk_below H1.out.1 hb) (below_step H1.out.2 hb)); clear hb b0 b1 b2 b3 b4; have b0 := (blk_cell H2.out.1 0).trans (show _ = some (.int .i64 C.p) from rfl); have b1 := (blk_cell H2.out.1 1).trans (show _ = some (.int .i64 C.f) from rfl); have b2 := (blk_cell H2.out.1 2).trans (show _ = some (.slice A2 C.ws.length c2) from rfl); have b3 := (blk_cell H2.out.1 3).trans (show _ = some (.slice A3 C.ks.length c3) from rfl); have b4 := (blk_cell H2.out.1 4).trans (show _ = some (.slice A4 C.ac.length c4) from rfl)))
    have H3 : (w2.alloc (.cells #[.int .i64 ea, .int .i64 eb] 52)).heap[w.heap.size]? = some (.cells #[.int .i64 C.p, .int .i64 C.f, .slice A2 C.ws.length c2, .slice A3 C.ks.length c3, .slice A4 C.ac.length c4] 26 (0, 0)) ∧ Below w.heap.size w (w2.alloc (.cells #[.int .i64 ea, .int .i64 eb] 52)) := ⟨blk_alloc H2.out.1 _, below_alloc H2.out.2 _⟩
    clear b0 b1 b2 b3 b4 H2 H1 CC
    revert H3
    generalize (w2.alloc (.cells #[.int .i64 ea, .int .i64 eb] 52)) = w3
    intro H3
    have HW := Aside0.mk H3
    clear H3
    have b0 := (blk_cell HW.out.1 0).trans (show _ = some (.int .i64 C.p) from rfl)
    have b1 := (blk_cell HW.out.1 1).trans (show _ = some (.int .i64 C.f) from rfl)
    have b2 := (blk_cell HW.out.1 2).trans (show _ = some (.slice A2 C.ws.length c2) from rfl)
    have b3 := (blk_cell HW.out.1 3).trans (show _ = some (.slice A3 C.ks.length c3) from rfl)
    have b4 := (blk_cell HW.out.1 4).trans (show _ = some (.slice A4 C.ac.length c4) from rfl)
    have TS := Aside0.mk (fun (W : World) (hb : Below w3.heap.size w3 W) => And.intro (cell_b b0 hb) (And.intro (cell_b b1 hb) (And.intro (cell_b b2 hb) (And.intro (cell_b b3 hb) (cell_b b4 hb)))))
    have HB := Aside0.mk (below_drew (Below.refl w3.heap.size w3))
    have hpI : IntKind.i64.wrap p = p := IntWalk.i64_in _ (by omega)
    have hpw : wrap64 p = p := w64_in (by omega) (by omega)
    go_region_held3 (fun w' => w'.cell? ⟨w.heap.size, 0, none⟩ = some (.int .i64 C.p) ∧ w'.cell? ⟨w.heap.size, 1, none⟩ = some (.int .i64 C.f) ∧ w'.cell? ⟨w.heap.size, 2, none⟩ = some (.slice A2 C.ws.length c2) ∧ w'.cell? ⟨w.heap.size, 3, none⟩ = some (.slice A3 C.ks.length c3) ∧ w'.cell? ⟨w.heap.size, 4, none⟩ = some (.slice A4 C.ac.length c4)) (first | exact TS.out _ HB.out | exact TS.out _ (below_drew (Below.refl _ _)) | go_keep) (first | (go_at_call 24; (with_reducible refine (CQ.out _ (below_step HW.out.2 HB.out)).mono ?_); rintro e w4 ⟨Bq, dq, rfl, hcq, hb⟩; have HBn := Aside0.mk (below_step HB.out hb); clear HB; have HB := HBn; clear HBn; clear hb))
    all_goals
      go_wp2
      go_ret
      exact ⟨by first | rfl | rw [hp] | (rw [hpw]), below_step HW.out.2 HB.out⟩
  · have d1 : decide (ec = 0) = false := decide_eq_false he
    have d2 : (ec == 0) = false := beq_eq_false_iff_ne.mpr he
    have hcy : cycN C = -1 := by unfold cycN; rw [if_neg (by rw [hok, d2]; decide)]
    rw [hcy]
    clear hcy hok he hcb
    go_enter Tryd.func13, Tryd.ntmps13
    go_wp2_with (first | (go_at_call 35; (with_reducible refine (CC.out _ H1.out.2).mono ?_); rintro e w2 ⟨rfl, hb⟩; have H2 := Aside0.mk (And.intro (blk_below H1.out.1 hb) (below_step H1.out.2 hb)); clear hb b0 b1 b2 b3 b4))
    go_ret
    exact ⟨rfl, by first | exact H2.out.2 | exact below_alloc H2.out.2 _⟩
end Go.Proofs.YtcebmgndniejcaaDoor.Wn
