/- A drawn region inside a round (a range over a function), by the laws for regions outside: no operation is a defer, and nothing lets out. -/
import Derived.Test.YtcebmgndniejcaaDoorOrdU
import Derived.OrdersIn
import Derived.Test.YtcebmgndniejcaaDoorWn
import Derived.TacticsIn
set_option linter.unusedVariables false
set_option linter.unusedSimpArgs false
namespace Go.Proofs.YtcebmgndniejcaaDoor.OrdU
open Go
def noDefer (ops : Array Oper) : Bool := ops.all fun o => match o.op with | .defer _ => false | _ => true
theorem noDefer_spec {ops : Array Oper} (h : noDefer ops = true) : ∀ (j : Nat) (o : Oper), ops[j]? = some o → ∀ c, o.op ≠ .defer c := fun j o ho c hc => by
  unfold noDefer at h
  rw [Array.all_eq_true] at h
  obtain ⟨hj, rfl⟩ := Array.getElem?_eq_some_iff.1 ho
  have := h j hj
  simp [hc] at this
section
variable {P : Program} {ops : Array Oper} {Q : Exit → Act → World → Prop} {n l : Nat}
theorem uponIn_of {o : Oper} {a : Act} {K K' : Act → World → Prop} (h : ∀ a w, K a w → K' a w) {r : Result Next} (hh : o.upon P a K Q r) : o.uponIn (Fence.wide.inRound l) n P a K' Q r := by
  cases r with
  | ok x w' =>
    cases x <;> simp only [Oper.upon, Oper.uponIn] at hh ⊢ <;>
      first
        | exact h _ _ hh
        | exact hh.elim
        | exact ⟨fun hd => (by cases hd), CallsIn.mono (callsIn_wide.2 hh) (fun e w'' he => by cases e <;> first | exact h _ _ he | exact he)⟩
        | exact ⟨fun hd => (by cases hd), fun c cs _ => let ⟨v, w', r, s⟩ := hh c cs; ⟨v, w', h _ _ r, stepsIn_wide.2 s⟩⟩
  | halt x w' => cases x <;> simp only [Oper.upon, Oper.uponIn] at hh ⊢ <;> first | exact hh | exact hh.elim
theorem wpOpsIn_of (hd : ∀ (j : Nat) (o : Oper), ops[j]? = some o → ∀ c, o.op ≠ .defer c) (hQ : ¬ LetsOut Q) : ∀ (s : List Nat) (a : Act) (w : World), wpOps P ops Q s a w → wpOpsIn (Fence.wide.inRound l) n P ops Q s a w
  | [], _, _, h => h
  | i :: rest, a, w, h => by
    simp only [wpOps, wpOpsIn] at h ⊢
    cases ho : ops[i]? with
    | none => simp only [ho] at h ⊢; exact wpOpsIn_of hd hQ rest _ _ h
    | some o =>
      simp only [ho] at h ⊢
      split
      · rename_i hw
        simp only [hw, if_true] at h
        rcases h with h | ⟨_, h⟩
        · refine ⟨fun _ _ => trivial, ?_⟩
          have e : Oper.semAt (Fence.wide.inRound l).round a.eval o = execOp a.eval o := Oper.semAt_some l _ _ (hd i o ho)
          rw [e]
          exact uponIn_of (fun a w h => wpOpsIn_of hd hQ rest a w h) h
        · exact absurd h hQ
      · rename_i hw
        simp only [hw] at h
        exact ⟨fun _ _ => trivial, wpOpsIn_of hd hQ rest _ _ h⟩
theorem inRound_any {id : Nat} {a : Act} {w : World} (hm : P.follows .mixedOrders = true) (hd : noDefer ops = true) (hQ : ¬ LetsOut Q)
    (h : wpAny P .any ops Q ops.size (Array.replicate ops.size false) a { w with drawn := w.drawn + 1 }) : (Code.region id ops true).wpIn (Fence.wide.inRound l) n P Q a w :=
  wpIn_region_draw fun t => by
    simp only [Region.schedule, hm, Bool.true_or, if_true]
    exact wpOpsIn_of (noDefer_spec hd) hQ _ _ _ (wpAny_sound ops.size t _ a _ h)
/-- The print's word start_, inside a round. -/
theorem startR_ {S : World → Prop} {ds : List Nat} {id k : Nat} {a : Act} {w : World} (b : Array Bool) (hm : P.follows .mixedOrders = true) (hd : noDefer ops = true) (hQ : ¬ LetsOut Q) (hn : ops.size = k) (hl : Array.replicate k false = b) (hS : S w.drew)
    (h : S w.drew → Go.Proofs.YtcebmgndniejcaaDoorW.PrintLast.wpAnyLast P .any ops Q S ds k b a w.drew) : (Code.region id ops true).wpIn (Fence.wide.inRound l) n P Q a w := by
  subst hn
  subst hl
  exact inRound_any hm hd hQ (Go.Proofs.YtcebmgndniejcaaDoorW.PrintLast.wpAny_of_last _ _ _ _ (h hS))
end
end Go.Proofs.YtcebmgndniejcaaDoor.OrdU
