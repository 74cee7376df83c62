/- Layer 5 (table): the document's take. -/
import Derived.Test.YtdebbanloopcgaaDoorTbQ2
import Derived.Deep.RegionHeld3
set_option linter.unusedVariables false
set_option linter.unusedSimpArgs false
namespace Go.Proofs.YtdebbanloopcgaaDoor.Tb
open Go Go.RowKit Go.Proofs.YtdebbanloopcgaaDoorW.PrintWords Go.Proofs.YtdebbanloopcgaaDoorW.PrintLast Go.Proofs.YtdebbanloopcgaaDoorW.PrintMore Go.Proofs.YtdebbanloopcgaaDoor.Cz Go.Proofs.YtdebbanloopcgaaDoor.PTableWrites Go.Proofs.YtdebbanloopcgaaDoor.Cf
attribute [local go_sem] max2_int min2_int max_two min_two max_three min_three max_four min_four Tryd.underlying69 Tryd.underlying71
theorem nx_snoc : ∀ (l : List Int) (r : Wi.Rd) (n : Int), nx r (l ++ [n]) = Wi.next (nx r l) n
  | [], _, _ => rfl
  | m :: t, r, n => nx_snoc t (Wi.next r m) n
theorem vl_snoc : ∀ (l : List Int) (r : Wi.Rd) (n : Int), vl r (l ++ [n]) = vl r l ++ [Wi.nextV (nx r l) n]
  | [], _, _ => rfl
  | m :: t, r, n => by
    show Wi.nextV r m :: vl (Wi.next r m) (t ++ [n]) = Wi.nextV r m :: (vl (Wi.next r m) t ++ [Wi.nextV (nx (Wi.next r m) t) n])
    rw [vl_snoc t (Wi.next r m) n]
theorem vl_len : ∀ (l : List Int) (r : Wi.Rd), (vl r l).length = l.length
  | [], _ => rfl
  | m :: t, r => by
    show (vl (Wi.next r m) t).length + 1 = t.length + 1
    rw [vl_len t]
theorem take_snoc {α : Type} {l : List α} {j : Nat} (h : j < l.length) : l.take (j + 1) = l.take j ++ [l[j]] := by rw [List.take_succ_eq_append_getElem h]
/-- take's memory: the reader and the numbers so far, the result's cell. -/
structure TB (wb w W : World) (bx br : Nat) (A : Option Addr) (c : Nat) (r : Wi.Rd) (v : Value) (ls : List Int) : Prop where
  kx : W.heap[bx]? = some (.cells #[.slice A r.b.length c, .int .i64 r.e, v] 71 (0, 0))
  kr : W.heap[br]? = some (.cells #[.slice none 0 0, .int .i64 0, .slice none 0 0] 71 (0, 0))
  ci : Wi.CI .u8 wb A c r.b
  oi : Wi.OI .i64 3 w W v ls
  hx : w.heap.size ≤ bx
  hr : w.heap.size ≤ br
  ne : bx ≠ br
section
variable {wb w W W' : World} {bx br : Nat} {A A' : Option Addr} {c c' : Nat} {r r' : Wi.Rd} {v v' : Value} {ls ls' : List Int}
theorem TB.far (h : TB wb w W bx br A c r v ls) (hb : Below W.heap.size W W') : TB wb w W' bx br A c r v ls := ⟨blk_below h.kx hb, blk_below h.kr hb, h.ci, h.oi.far hb, h.hx, h.hr, h.ne⟩
/-- A block of neither type is written. -/
theorem TB.kept (h : TB wb w W bx br A c r v ls) {b t : Nat} {cs : Array Value} (hb : W.heap[b]? = some (.cells cs t (0, 0))) (h1 : t ≠ 71) (h2 : 3 ≠ t) (hle : w.heap.size ≤ b) (hg : W.grownBy W' (some b)) : TB wb w W' bx br A c r v ls :=
  ⟨blk_grown h.kx hg (fun e => blk_ne hb h.kx h1 (Option.some.inj e).symm), blk_grown h.kr hg (fun e => blk_ne hb h.kr h1 (Option.some.inj e).symm), h.ci, h.oi.grown hg (fun k hk => by cases hk; exact hle) (fun k hk => by cases hk; exact fun e => Kd.R_ne h.oi.r hb h2 e.symm), h.hx, h.hr, h.ne⟩
/-- The own block is written. -/
theorem TB.own (h : TB wb w W bx br A c r v ls) (hg : W.grownBy W' (some bx)) (hb : W'.heap[bx]? = some (.cells #[.slice A' r'.b.length c', .int .i64 r'.e, v] 71 (0, 0))) (hc : Wi.CI .u8 wb A' c' r'.b) : TB wb w W' bx br A' c' r' v ls :=
  ⟨hb, blk_grown h.kr hg (fun e => h.ne (Option.some.inj e).symm), hc, h.oi.grown hg (fun k hk => by cases hk; exact h.hx) (fun k hk => by cases hk; exact fun e => Kd.R_ne h.oi.r h.kx (by decide) e.symm), h.hx, h.hr, h.ne⟩
/-- The numbers grew; the own block takes them. -/
theorem TB.push (h : TB wb w W bx br A c r v ls) (ho : Wi.OI .i64 3 w W' v' ls') (hg : W.grownBy W' v.ownBlock) : TB wb w (W'.setCell ⟨bx, 2, none⟩ v') bx br A c r v' ls' ∧ W'.heap[bx]? = some (.cells #[.slice A r.b.length c, .int .i64 r.e, v] 71 (0, 0)) := by
  have hb := blk_grown h.kx hg (Kd.R_ne h.oi.r h.kx (by decide))
  have hb2 := blk_grown h.kr hg (Kd.R_ne h.oi.r h.kr (by decide))
  refine ⟨⟨blk_put hb 2 v' rfl, blk_far (p := ⟨bx, 2, none⟩) hb2 (fun e => h.ne e.symm) v', h.ci, ho.grown (grown_set W' bx 2 v') (fun k hk => by cases hk; exact h.hx) (fun k hk => by cases hk; exact fun e => Kd.R_ne ho.r hb (by decide) e.symm), h.hx, h.hr, h.ne⟩, hb⟩
end
set_option maxHeartbeats 16000000 in
set_option maxRecDepth 100000 in
theorem take_any {wb : World} {A : Option Addr} {c : Nat} {r : Wi.Rd} (h : Wi.CI .u8 wb A c r.b) (hf : Wi.WF r.b) {w : World} (hb0 : Below wb.heap.size wb w) {A2 : Option Addr} {c2 : Nat} {ns : List Int} (hw : Wi.CI .i64 w A2 c2 ns) (hl : ns.length ≤ 11) :
    Calls Tryd.prog 40 #[.agg #[.slice A r.b.length c, .int .i64 r.e, .slice none 0 0], .slice A2 ns.length c2] w fun e w' => ∃ A' c' v, e = .returned (.agg #[.slice A' (nx r ns).b.length c', .int .i64 (nx r ns).e, v]) ∧ Wi.CI .u8 wb A' c' (nx r ns).b ∧ Wi.OI .i64 3 w w' v (vl r ns) := by
  have HF := Aside0.mk hf
  have HWD := Aside0.mk hw
  have HB0 := Aside0.mk hb0
  have TT := Aside0.mk Tryd.underlying71
  have H0 : Aside0 (TB wb w ((w.alloc (.cells #[.slice A r.b.length c, .int .i64 r.e, .slice none 0 0] 71)).alloc (.cells #[.slice none 0 0, .int .i64 0, .slice none 0 0] 71)) w.heap.size (w.heap.size + 1) A c r (.slice none 0 0) []) := ⟨by
    have hb := below_alloc (below_alloc (Below.refl w.heap.size w) (.cells #[.slice A r.b.length c, .int .i64 r.e, .slice none 0 0] 71)) (.cells #[.slice none 0 0, .int .i64 0, .slice none 0 0] 71)
    have h1 := blk_new (w.alloc (.cells #[.slice A r.b.length c, .int .i64 r.e, .slice none 0 0] 71)) (.cells #[.slice none 0 0, .int .i64 0, .slice none 0 0] 71)
    rw [World.size_alloc] at h1
    exact ⟨blk_alloc (blk_new _ _) _, h1, h, Wi.OI.nil _ _ hb, Nat.le_refl _, by omega, by omega⟩⟩
  clear h hf hw hb0
  go_enter Tryd.func40, Tryd.ntmps40
  go_upto_region 1 with (first | fail)
  generalize ((w.alloc (.cells #[.slice A r.b.length c, .int .i64 r.e, .slice none 0 0] 71)).alloc (.cells #[.slice none 0 0, .int .i64 0, .slice none 0 0] 71)) = w1 at H0 ⊢
  obtain ⟨bx, hbx⟩ : ∃ x, w.heap.size = x := ⟨_, rfl⟩
  obtain ⟨br, hbr⟩ : ∃ x, w.heap.size + 1 = x := ⟨_, rfl⟩
  rw [hbr] at H0 ⊢
  rw [hbx] at H0 ⊢
  clear hbx hbr
  go_wp2
  go_loopw [5] (fun v5 wr => ∃ i : Nat, v5 = .int .i64 i ∧ i ≤ ns.length ∧ Aside0 (∃ A' c' v, TB wb w wr bx br A' c' (nx r (ns.take i)) v (vl r (ns.take i)))) (fun v5 _ => ns.length - (intOf v5).toNat)
  case atStart => exact ⟨0, rfl, by omega, ⟨⟨_, _, _, H0.out⟩⟩⟩
  case round =>
    clear H0
    obtain ⟨i, rfl, hi, HJ⟩ := hrel
    obtain ⟨A1, c1, v1, hT⟩ := HJ.out
    have H := Aside0.mk hT
    clear hT HJ
    by_cases hlt : i < ns.length
    · have d1 : decide ((i : Int) < (ns.length : Int)) = true := decide_eq_true (by omega)
      have d1n : decide (i < ns.length) = true := decide_eq_true hlt
      have hi0 : 0 ≤ (i : Int) := by omega
      have hi1 : (i : Int) < ns.length := by omega
      have HN1 := Aside0.mk (nx_snoc (ns.take i) r ns[i])
      have HN2 := Aside0.mk (vl_snoc (ns.take i) r ns[i])
      have HVL := Aside0.mk (vl_len (ns.take i) r)
      rw [← take_snoc hlt] at HN1 HN2
      obtain ⟨ad, hA2, hcell⟩ := HWD.out.at_ hlt
      subst hA2
      rw [show rd ns (i : Int) = ns[i] by simp [rd, hlt]] at hcell
      have HWF : Aside0 (Wi.WF (nx r (ns.take i)).b) := ⟨nx_wf HF.out⟩
      generalize ns[i] = nn at HN1 HN2 hcell
      have HCL := Aside0.mk hcell
      clear hcell
      have HLS : Aside0 ((vl r (ns.take i)).length ≤ 11) := ⟨by rw [HVL.out, List.length_take]; omega⟩
      generalize nx r (ns.take i) = ri at H HN1 HN2 HWF
      generalize vl r (ns.take i) = li at H HN2 HVL HLS
      go_upto_region 4 with (first | fail)
      have HD := Aside0.mk (H.out.far (below_drew (Below.refl wr.heap.size wr)))
      have HBW := Aside0.mk (below_drew (Below.refl wr.heap.size wr))
      have TS := Aside0.mk (fun (W : World) (hb : Below wr.heap.size wr W) => show (W.cell? ⟨bx, 0, none⟩ = some (.slice A1 ri.b.length c1) ∧ W.cell? ⟨bx, 1, none⟩ = some (.int .i64 ri.e) ∧ W.cell? (ad.add i) = some (.int .i64 nn)) from ⟨(blk_cell (blk_below H.out.kx hb) 0).trans (show _ = some _ from rfl), (blk_cell (blk_below H.out.kx hb) 1).trans (show _ = some _ from rfl), cell_b (cell_b HCL.out H.out.oi.bel) hb⟩)
      refine start_ (n := 13) (S := (fun w' => (w'.cell? ⟨bx, 0, none⟩ = some (.slice A1 ri.b.length c1) ∧ w'.cell? ⟨bx, 1, none⟩ = some (.int .i64 ri.e) ∧ w'.cell? (ad.add i) = some (.int .i64 nn)))) (ds := [11]) #[false, false, false, false, false, false, false, false, false, false, false, false, false] (by kernel_rfl) rfl rfl (TS.out _ HBW.out) (fun hHeld => ?_)
      refine pure_ (i := 0) (N := some 15) (v := ?_) (a' := ?_) #[true, false, false, false, false, false, false, false, false, false, false, false, false] rfl rfl (by kernel_rfl) (fun _ _ _ h => h) (Or.inl ⟨by rfl, ?_⟩) ?_ ?_
      rotate_left
      · intro w'
        go_simp
        with_reducible rfl
      rotate_left
      · simp only [Act.put, List.setIfInBounds_toArray, List.set_cons_zero, List.set_cons_succ, i64_w, i32_w]
        rfl
      refine take_ (i := 1) (N := some 16) (v := ?_) (a' := ?_) #[true, true, false, false, false, false, false, false, false, false, false, false, false] rfl rfl (by kernel_rfl) (fun _ _ _ h => h) (Or.inl ⟨by rfl, ?_⟩) hHeld ?_ ?_
      rotate_left
      · intro w' hSw
        obtain ⟨x0, x1, x2⟩ := hSw
        go_simp
        with_reducible rfl
      rotate_left
      · simp only [Act.put, List.setIfInBounds_toArray, List.set_cons_zero, List.set_cons_succ, i64_w, i32_w]
        rfl
      refine pure_ (i := 2) (N := some 17) (v := ?_) (a' := ?_) #[true, true, true, false, false, false, false, false, false, false, false, false, false] rfl rfl (by kernel_rfl) (fun _ _ _ h => h) (Or.inl ⟨by rfl, ?_⟩) ?_ ?_
      rotate_left
      · intro w'
        go_simp
        with_reducible rfl
      rotate_left
      · simp only [Act.put, List.setIfInBounds_toArray, List.set_cons_zero, List.set_cons_succ, i64_w, i32_w]
        rfl
      refine pure_ (i := 3) (N := some 18) (v := ?_) (a' := ?_) #[true, true, true, true, false, false, false, false, false, false, false, false, false] rfl rfl (by kernel_rfl) (fun _ _ _ h => h) (Or.inl ⟨by rfl, ?_⟩) ?_ ?_
      rotate_left
      · intro w'
        go_simp
        with_reducible rfl
      rotate_left
      · simp only [Act.put, List.setIfInBounds_toArray, List.set_cons_zero, List.set_cons_succ, i64_w, i32_w]
        rfl
      refine pure_ (i := 4) (N := some 19) (v := ?_) (a' := ?_) #[true, true, true, true, true, false, false, false, false, false, false, false, false] rfl rfl (by kernel_rfl) (fun _ _ _ h => h) (Or.inl ⟨by rfl, ?_⟩) ?_ ?_
      rotate_left
      · intro w'
        go_simp
        with_reducible rfl
      rotate_left
      · simp only [Act.put, List.setIfInBounds_toArray, List.set_cons_zero, List.set_cons_succ, i64_w, i32_w]
        rfl
      refine take_ (i := 5) (N := some 20) (v := ?_) (a' := ?_) #[true, true, true, true, true, true, false, false, false, false, false, false, false] rfl rfl (by kernel_rfl) (fun _ _ _ h => h) (Or.inl ⟨by rfl, ?_⟩) hHeld ?_ ?_
      rotate_left
      · intro w' hSw
        obtain ⟨x0, x1, x2⟩ := hSw
        go_simp
        with_reducible rfl
      rotate_left
      · simp only [Act.put, List.setIfInBounds_toArray, List.set_cons_zero, List.set_cons_succ, i64_w, i32_w]
        rfl
      clear hHeld
      refine join_ 2 #[true, true, true, true, true, true, true, true, true, true, true, false, false] (fun (s : Option Addr × Nat × Nat) => ([(21, .tuple #[.agg #[.slice s.1 (Wi.next ri nn).b.length s.2.1, .int .i64 (Wi.next ri nn).e], .int .i64 (Wi.nextV ri nn)]), (14, .tuple #[.agg #[.slice s.1 (Wi.next ri nn).b.length s.2.1, .int .i64 (Wi.next ri nn).e], .int .i64 (Wi.nextV ri nn)]), (22, .agg #[.slice s.1 (Wi.next ri nn).b.length s.2.1, .int .i64 (Wi.next ri nn).e]), (23, .int .i64 (Wi.nextV ri nn)), (6, .pointer (some ⟨s.2.2, 0, none⟩))] : List (Tmp × Value))) (fun s W => Below wr.heap.size wr W ∧ Wi.CI .u8 wb s.1 s.2.1 (Wi.next ri nn).b ∧ W.heap[s.2.2]? = some (.cells #[.slice none 0 0, .int .i64 0] 69 (0, 0)) ∧ wr.heap.size ≤ s.2.2) ?last (fun J => ?_)
      rotate_left
      replace J := Aside0.mk J
      refine two_ (i := 6) (j := 10) (Ni := some 21) (Nj := some 6) #[true, true, true, true, true, true, true, false, false, false, false, false, false] #[true, true, true, true, true, true, false, false, false, false, true, false, false] rfl rfl rfl rfl (by kernel_rfl) (by decide) (by decide) ?_ ?_
      · intro K hK
        refine goes_ Tryd.func59 (by kernel_rfl) rfl #[.agg #[.slice A1 ri.b.length c1, .int .i64 ri.e], .int .i64 nn] (by rfl) rfl rfl (by (try simp only [List.map_toArray, List.map_cons, List.map_nil]); first | done | rfl) ?_
        (with_reducible refine (Wi.rNext_any H.out.ci (below_step (below_step HB0.out H.out.oi.bel) HBW.out) HWF.out nn).mono ?_)
        rintro e w5 ⟨A5, c5, rfl, hc5, hb5⟩
        refine ⟨_, rfl, ?_⟩
        have hbw := below_step HBW.out hb5
        refine hK.out _ _ (TS.out _ hbw) (fun hHeld => ?_)
        clear hK K hHeld
        refine norm_ (a' := ?_) ?_ ?_
        rotate_left
        · show Act.put _ (some 21) _ = _
          simp only [Act.put, List.setIfInBounds_toArray, List.set_cons_zero, List.set_cons_succ, i64_w, i32_w]
          rfl
        refine pure_ (i := 7) (N := some 14) (v := ?_) (a' := ?_) #[true, true, true, true, true, true, true, true, false, false, false, false, false] rfl rfl (by kernel_rfl) (fun _ _ _ h => h) (Or.inl ⟨by rfl, ?_⟩) ?_ ?_
        rotate_left
        · intro w'
          go_simp
          with_reducible rfl
        rotate_left
        · simp only [Act.put, List.setIfInBounds_toArray, List.set_cons_zero, List.set_cons_succ, i64_w, i32_w]
          rfl
        refine pure_ (i := 8) (N := some 22) (v := ?_) (a' := ?_) #[true, true, true, true, true, true, true, true, true, false, false, false, false] rfl rfl (by kernel_rfl) (fun _ _ _ h => h) (Or.inl ⟨by rfl, ?_⟩) ?_ ?_
        rotate_left
        · intro w'
          go_simp
          with_reducible rfl
        rotate_left
        · simp only [Act.put, List.setIfInBounds_toArray, List.set_cons_zero, List.set_cons_succ, i64_w, i32_w]
          rfl
        refine pure_ (i := 9) (N := some 23) (v := ?_) (a' := ?_) #[true, true, true, true, true, true, true, true, true, true, false, false, false] rfl rfl (by kernel_rfl) (fun _ _ _ h => h) (Or.inl ⟨by rfl, ?_⟩) ?_ ?_
        rotate_left
        · intro w'
          go_simp
          with_reducible rfl
        rotate_left
        · simp only [Act.put, List.setIfInBounds_toArray, List.set_cons_zero, List.set_cons_succ, i64_w, i32_w]
          rfl
        refine one_ (i := 10) (N := some 6) #[true, true, true, true, true, true, true, true, true, true, true, false, false] rfl rfl (by kernel_rfl) (by decide) ?_
        intro K hK
        refine value_ (w1 := ?_) (v := ?_) (by rfl) rfl ?_ ?_
        rotate_left 2
        · go_simp
          constructor
          · rfl
          · rfl
        have hbw2 := below_alloc hbw (.cells #[.slice none 0 0, .int .i64 0] 69)
        refine hK.out _ _ (TS.out _ hbw2) (fun hHeld => ?_)
        clear hK K hHeld
        refine norm_ ?_ (J.out (A5, c5, w5.heap.size) _ ⟨hbw2, hc5, blk_new _ _, hbw.size⟩)
        simp only [putAll, Act.put, List.setIfInBounds_toArray, List.set_cons_zero, List.set_cons_succ]
      · intro K hK
        refine value_ (w1 := ?_) (v := ?_) (by rfl) rfl ?_ ?_
        rotate_left 2
        · go_simp
          constructor
          · rfl
          · rfl
        have hbw := below_drew (below_alloc (Below.refl wr.heap.size wr) (.cells #[.slice none 0 0, .int .i64 0] 69))
        refine hK.out _ _ (TS.out _ hbw) (fun hHeld => ?_)
        clear hK K hHeld
        refine one_ (i := 6) (N := some 21) #[true, true, true, true, true, true, true, false, false, false, true, false, false] rfl rfl (by kernel_rfl) (by decide) ?_
        intro K hK
        refine goes_ Tryd.func59 (by kernel_rfl) rfl #[.agg #[.slice A1 ri.b.length c1, .int .i64 ri.e], .int .i64 nn] (by rfl) rfl rfl (by (try simp only [List.map_toArray, List.map_cons, List.map_nil]); first | done | rfl) ?_
        (with_reducible refine (Wi.rNext_any H.out.ci (below_step (below_step HB0.out H.out.oi.bel) hbw) HWF.out nn).mono ?_)
        rintro e w5 ⟨A5, c5, rfl, hc5, hb5⟩
        refine ⟨_, rfl, ?_⟩
        have hbw2 := below_step hbw hb5
        refine hK.out _ _ (TS.out _ hbw2) (fun hHeld => ?_)
        clear hK K hHeld
        refine norm_ (a' := ?_) ?_ ?_
        rotate_left
        · show Act.put _ (some 21) _ = _
          simp only [Act.put, List.setIfInBounds_toArray, List.set_cons_zero, List.set_cons_succ, i64_w, i32_w]
          rfl
        refine pure_ (i := 7) (N := some 14) (v := ?_) (a' := ?_) #[true, true, true, true, true, true, true, true, false, false, true, false, false] rfl rfl (by kernel_rfl) (fun _ _ _ h => h) (Or.inl ⟨by rfl, ?_⟩) ?_ ?_
        rotate_left
        · intro w'
          go_simp
          with_reducible rfl
        rotate_left
        · simp only [Act.put, List.setIfInBounds_toArray, List.set_cons_zero, List.set_cons_succ, i64_w, i32_w]
          rfl
        refine pure_ (i := 8) (N := some 22) (v := ?_) (a' := ?_) #[true, true, true, true, true, true, true, true, true, false, true, false, false] rfl rfl (by kernel_rfl) (fun _ _ _ h => h) (Or.inl ⟨by rfl, ?_⟩) ?_ ?_
        rotate_left
        · intro w'
          go_simp
          with_reducible rfl
        rotate_left
        · simp only [Act.put, List.setIfInBounds_toArray, List.set_cons_zero, List.set_cons_succ, i64_w, i32_w]
          rfl
        refine pure_ (i := 9) (N := some 23) (v := ?_) (a' := ?_) #[true, true, true, true, true, true, true, true, true, true, true, false, false] rfl rfl (by kernel_rfl) (fun _ _ _ h => h) (Or.inl ⟨by rfl, ?_⟩) ?_ ?_
        rotate_left
        · intro w'
          go_simp
          with_reducible rfl
        rotate_left
        · simp only [Act.put, List.setIfInBounds_toArray, List.set_cons_zero, List.set_cons_succ, i64_w, i32_w]
          rfl
        refine norm_ ?_ (J.out (A5, c5, wr.heap.size) _ ⟨hbw2, hc5, blk_below (blk_drew (blk_new _ _)) hb5, Nat.le_refl _⟩)
        simp only [putAll, Act.put, List.setIfInBounds_toArray, List.set_cons_zero, List.set_cons_succ]
      case last =>
        rintro ⟨A5, c5, q⟩ W ⟨hbw, hc5, hq, hqle⟩
        simp only [] at hc5 hq hqle
        have HQ := Aside0.mk (And.intro (H.out.far hbw) (And.intro hc5 (And.intro hq (Nat.le_trans H.out.oi.bel.size hqle))))
        clear hbw hc5 hq hqle TS HD HBW
        refine norm_ (a' := ?_) ?_ ?_
        rotate_left
        · simp only [putAll, Act.put, List.setIfInBounds_toArray, List.set_cons_zero, List.set_cons_succ]
          rfl
        refine last_ (i := 11) (N := none) #[true, true, true, true, true, true, true, true, true, true, true, true, false] rfl rfl (by kernel_rfl) (by decide) (fun K hK => ?_)
        have q0 := (blk_cell HQ.out.2.2.1 0).trans (show _ = some (.slice none 0 0) from rfl)
        have q1 := (blk_cell HQ.out.2.2.1 1).trans (show _ = some (.int .i64 0) from rfl)
        have qf0 := blk_frozen HQ.out.2.2.1 0
        have qf1 := blk_frozen HQ.out.2.2.1 1
        refine skip_ (w1 := ?_) (by rfl) rfl ?_ ?_
        rotate_left
        · go_simp
          rfl
        refine hK.out _ _ ?_
        clear hK K
        refine pure_ (i := 12) (N := some 7) (v := ?_) (a' := ?_) #[true, true, true, true, true, true, true, true, true, true, true, true, true] rfl rfl (by kernel_rfl) (fun _ _ _ h => h) (Or.inl ⟨by rfl, ?_⟩) ?_ ?_
        rotate_left
        · intro w'
          go_simp
          with_reducible rfl
        rotate_left
        · simp only [Act.put, List.setIfInBounds_toArray, List.set_cons_zero, List.set_cons_succ, i64_w, i32_w]
          rfl
        refine done_ (by kernel_rfl) ?_
        have HR : Aside0 (TB wb w ((W.setCell ⟨q, 0, none⟩ (.slice A5 (Wi.next ri nn).b.length c5)).setCell ⟨q, 1, none⟩ (.int .i64 (Wi.next ri nn).e)) bx br A1 c1 ri v1 li ∧ ((W.setCell ⟨q, 0, none⟩ (.slice A5 (Wi.next ri nn).b.length c5)).setCell ⟨q, 1, none⟩ (.int .i64 (Wi.next ri nn).e)).heap[q]? = some (.cells #[.slice A5 (Wi.next ri nn).b.length c5, .int .i64 (Wi.next ri nn).e] 69 (0, 0)) ∧ Wi.CI .u8 wb A5 c5 (Wi.next ri nn).b) := ⟨⟨(HQ.out.1.kept HQ.out.2.2.1 (by decide) (by decide) HQ.out.2.2.2 (grown_set _ q 0 _)).kept (blk_set HQ.out.2.2.1 0 _) (by decide) (by decide) HQ.out.2.2.2 (grown_set _ q 1 _), blk_put (blk_put HQ.out.2.2.1 0 _ rfl) 1 _ rfl, HQ.out.2.1⟩⟩
        clear q0 q1 qf0 qf1 HQ H
        generalize ((W.setCell ⟨q, 0, none⟩ (.slice A5 (Wi.next ri nn).b.length c5)).setCell ⟨q, 1, none⟩ (.int .i64 (Wi.next ri nn).e)) = W4 at HR ⊢
        have q0 := (blk_cell HR.out.2.1 0).trans (show _ = some (.slice A5 (Wi.next ri nn).b.length c5) from rfl)
        have q1 := (blk_cell HR.out.2.1 1).trans (show _ = some (.int .i64 (Wi.next ri nn).e) from rfl)
        have x0 := (blk_cell HR.out.1.kx 0).trans (show _ = some (.slice A1 ri.b.length c1) from rfl)
        have x1 := (blk_cell HR.out.1.kx 1).trans (show _ = some (.int .i64 ri.e) from rfl)
        have xf0 := blk_frozen HR.out.1.kx 0
        have xf1 := blk_frozen HR.out.1.kx 1
        go_upto_region 6 with (first | fail)
        have H5 : Aside0 (TB wb w ((W4.setCell ⟨bx, 0, none⟩ (.slice A5 (Wi.next ri nn).b.length c5)).setCell ⟨bx, 1, none⟩ (.int .i64 (Wi.next ri nn).e)) bx br A5 c5 (Wi.next ri nn) v1 li) := ⟨HR.out.1.own (World.grownBy.trans (grown_set _ bx 0 _) (grown_set _ bx 1 _)) (blk_put (blk_put HR.out.1.kx 0 _ rfl) 1 _ rfl) HR.out.2.2⟩
        clear q0 q1 x0 x1 xf0 xf1 HR
        generalize ((W4.setCell ⟨bx, 0, none⟩ (.slice A5 (Wi.next ri nn).b.length c5)).setCell ⟨bx, 1, none⟩ (.int .i64 (Wi.next ri nn).e)) = W5 at H5 ⊢
        obtain ⟨AL, cL, rfl, _⟩ := H5.out.oi.reads
        obtain ⟨nl, hnl⟩ : ∃ x, li.length = x := ⟨_, rfl⟩
        rw [hnl] at H5
        clear hnl
        have x2 := (blk_cell H5.out.kx 2).trans (show _ = some (.slice AL nl cL) from rfl)
        have xf2 := blk_frozen H5.out.kx 2
        go_wp2_with (first | ((with_reducible refine gate_dst (N := 29) rfl ?_); refine Wi.lit_ints (k := .i64) (e := 3) ?hg (N := 29) ?hd [Wi.nextV ri nn] #[.int .i64 (Wi.nextV ri nn)] ?hr ?hi ?hm ?_; (case hd => rfl); (case hg => rfl); (case hr => first | (go_simp; done) | (go_simp; rfl)); (case hi => rfl); (case hm => simp); intro D w6 hC hO; have H6 := Aside0.mk (H5.out.far hO.bel); have HC6 := Aside0.mk hC; clear hC hO x2 xf2) | ((with_reducible refine gate_builtin (b := .append) (xs := #[.tmp 27, .tmp 29]) rfl ?_); at_builtin; refine Wi.app_ints (k := .i64) (w0 := w) rfl (.tmp 27) (.tmp 29) 24 8 rfl Tryd.underlying24 Wi.info64 (by decide) (by decide) _ li [Wi.nextV ri nn] _ _ _ rfl rfl rfl ?aO ?aR ?aL ?_; (case aL => have := HLS.out; simp only [List.length_cons, List.length_nil]; omega); (case aR => exact HC6.out); (case aO => exact H6.out.oi); intro v7 w7 ho hg hat; obtain ⟨lz, hlz⟩ : ∃ z, li ++ [Wi.nextV ri nn] = z := ⟨_, rfl⟩; rw [hlz] at ho; obtain ⟨A7, c7, rfl, _⟩ := ho.reads; have HLZ := Aside0.mk hlz; clear hlz; have H7 := Aside0.mk (H6.out.push ho hg); have x2 := (blk_cell H7.out.2 2).trans (show _ = some (.slice AL nl cL) from rfl); have xf2 := blk_frozen H7.out.2 2; clear ho hg hat))
        go_roundw
        case rel => exact ⟨i + 1, by go_num, by omega, ⟨⟨A5, c5, _, by rw [HN1.out, HN2.out, HLZ.out]; exact H7.out.1⟩⟩⟩
        case measure => simp [intOf]; omega
    · have d1 : decide ((i : Int) < (ns.length : Int)) = false := decide_eq_false (by omega)
      have d1n : decide (i < ns.length) = false := decide_eq_false hlt
      obtain rfl : i = ns.length := by omega
      rw [List.take_length] at H
      obtain ⟨rn, hrn⟩ : ∃ x, nx r ns = x := ⟨_, rfl⟩
      obtain ⟨ln, hln⟩ : ∃ x, vl r ns = x := ⟨_, rfl⟩
      rw [hrn, hln] at H
      have HRN := Aside0.mk hrn
      have HLN := Aside0.mk hln
      clear hrn hln
      obtain ⟨AL, cL, rfl, _⟩ := H.out.oi.reads
      have x0 := (blk_cell H.out.kx 0).trans (show _ = some (.slice A1 rn.b.length c1) from rfl)
      have x1 := (blk_cell H.out.kx 1).trans (show _ = some (.int .i64 rn.e) from rfl)
      have x2 := (blk_cell H.out.kx 2).trans (show _ = some (.slice AL ln.length cL) from rfl)
      have y0 := (blk_cell H.out.kr 0).trans (show _ = some (.slice none 0 0) from rfl)
      have y1 := (blk_cell H.out.kr 1).trans (show _ = some (.int .i64 0) from rfl)
      have y2 := (blk_cell H.out.kr 2).trans (show _ = some (.slice none 0 0) from rfl)
      have yf0 := blk_frozen H.out.kr 0
      have yf1 := blk_frozen H.out.kr 1
      have yf2 := blk_frozen H.out.kr 2
      go_wp2
      refine bodyPost_ret (results_cell_row rfl _ _ br 71 #[.slice A1 rn.b.length c1, .int .i64 rn.e, .slice AL ln.length cL] (0, 0) _ rfl (blk_put (blk_put (blk_put H.out.kr 0 _ rfl) 1 _ rfl) 2 _ rfl) TT.out rfl (by kernel_rfl)) rfl ?_
      have hg : ∀ (W : World) (k : Nat) (u : Value), W.grownBy (W.setCell ⟨br, k, none⟩ u) (some br) := fun W k u => grown_set W br k u
      exact ⟨A1, c1, _, by rw [HRN.out], by rw [HRN.out]; exact H.out.ci, by rw [HLN.out]; exact H.out.oi.grown (World.grownBy.trans (World.grownBy.trans (hg _ 0 _) (hg _ 1 _)) (hg _ 2 _)) (fun k hk => by cases hk; exact H.out.hr) (fun k hk => by cases hk; exact fun e => Kd.R_ne H.out.oi.r H.out.kr (by decide) e.symm)⟩
end Go.Proofs.YtdebbanloopcgaaDoor.Tb
