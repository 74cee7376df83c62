/- Layer 3 (wire): what one byte turned does to what is sealed, in plain words. -/
import Derived.Test.YtjgianmcllkagaaWiOpens
import Derived.Laws.BitsAllLaws
set_option linter.unusedVariables false
set_option linter.unusedSimpArgs false
namespace Go.Proofs.Ytjgianmcllkagaa.Wi
open Go.RowKit Go.Proofs.YtjgianmcllkagaaW.PrintWords Go.Proofs.YtjgianmcllkagaaW.PrintLast Go.Proofs.YtjgianmcllkagaaW.PrintMore
def sealB (ys : List Int) : List Int := ys ++ putB 2 (sumB ys)
theorem sealB_len (ys : List Int) : (sealB ys).length = ys.length + 2 := by simp [sealB, putB]
theorem sealB_wf {ys : List Int} (h : WF ys) : WF (sealB ys) := h.app (WF.putB _ _)
theorem opE_of {zs : List Int} {m : Nat} (h : zs.length = m + 2) : opE zs = if valB (zs.drop m) = sumB (zs.take m) then 0 else 8 := by
  unfold opE
  rw [if_neg (by omega), show zs.length - 2 = m by omega]
  by_cases hq : valB (zs.drop m) = sumB (zs.take m)
  · rw [if_pos hq, if_neg (fun h => h hq)]
  · rw [if_neg hq, if_pos hq]
theorem opE_seal (ys : List Int) : opE (sealB ys) = 0 := by
  have hs := sumB_bound ys
  rw [opE_of (sealB_len ys)]
  unfold sealB
  rw [List.drop_left, List.take_left, putB_val hs.1 hs.2, if_pos rfl]
theorem opB_seal (ys : List Int) : opB (sealB ys) = ys := by
  unfold opB
  rw [opE_seal, if_pos rfl, sealB_len, show ys.length + 2 - 2 = ys.length by omega]
  unfold sealB
  rw [List.take_left]
theorem sum_set : ∀ (ys : List Int) (k : Nat) (y : Int), k < ys.length → (ys.set k y).sum = ys.sum - rd ys k + y
  | [], k, y, h => by simp at h
  | x :: ys, 0, y, _ => by
    simp [rd]
    omega
  | x :: ys, k + 1, y, h => by
    have := sum_set ys k y (by simpa using h)
    have e : rd (x :: ys) ((k + 1 : Nat) : Int) = rd ys (k : Int) := by simp [rd]
    simp only [List.set_cons_succ, List.sum_cons, this, e]
    omega
theorem rd_left {ys zs : List Int} {k : Nat} (h : k < ys.length) : rd (ys ++ zs) (k : Int) = rd ys k := by
  simp [rd, List.getElem?_append_left h]
theorem opE_turn {ys : List Int} (hf : WF ys) {k : Nat} (hk : k < ys.length + 2) {y : Int} (hy : 0 ≤ y ∧ y < 256) : opE ((sealB ys).set k y) = if y = rd (sealB ys) k then 0 else 8 := by
  have hs := sumB_bound ys
  rw [opE_of (m := ys.length) (by rw [List.length_set]; exact sealB_len ys)]
  unfold sealB
  by_cases h : k < ys.length
  · rw [List.set_append_left _ _ h]
    have hl : (ys.set k y).length = ys.length := List.length_set ..
    rw [show ys.length = (ys.set k y).length from hl.symm, List.drop_left, List.take_left, putB_val hs.1 hs.2, rd_left h]
    have hx := wf_rd hf h
    have e := sum_set ys k y h
    have hq : (sumB ys = sumB (ys.set k y)) ↔ y = rd ys k := by
      unfold sumB
      rw [e]
      constructor
      · intro h; omega
      · intro h; rw [h]; congr 1; omega
    by_cases hz : y = rd ys k
    · rw [if_pos hz, if_pos (hq.2 hz)]
    · rw [if_neg hz, if_neg (fun h => hz (hq.1 h))]
  · rw [List.set_append_right _ _ (by omega), List.drop_left, List.take_left]
    obtain ⟨s, hse⟩ : ∃ s, sumB ys = s := ⟨_, rfl⟩
    rw [hse] at hs ⊢
    have e : rd (ys ++ putB 2 s) (k : Int) = rd (putB 2 s) ((k - ys.length : Nat) : Int) := by
      simp [rd, List.getElem?_append_right (show ys.length ≤ k by omega)]
    rw [e]
    rcases (show k - ys.length = 0 ∨ k - ys.length = 1 by omega) with h1 | h1
    · rw [h1]
      simp [putB, valB, rd]
      by_cases hz : y = s / 256 % 256
      · rw [if_pos hz, if_pos (by omega)]
      · rw [if_neg hz, if_neg (by omega)]
    · rw [h1]
      simp [putB, valB, rd]
      by_cases hz : y = s % 256
      · rw [if_pos hz, if_pos (by omega)]
      · rw [if_neg hz, if_neg (by omega)]
theorem xor_nat (a b : Nat) : a ^^^ b = a ↔ b = 0 := by
  constructor
  · intro h
    have h2 : a ^^^ (a ^^^ b) = a ^^^ a := by rw [h]
    rw [← Nat.xor_assoc, Nat.xor_self, Nat.zero_xor] at h2
    exact h2
  · intro h
    rw [h, Nat.xor_zero]
theorem xor_byte {x b : Int} (hx : 0 ≤ x ∧ x < 256) (hb : 0 ≤ b ∧ b < 256) : (0 ≤ bits .xor .u8 x b ∧ bits .xor .u8 x b < 256) ∧ (bits .xor .u8 x b = x ↔ b = 0) := by
  rw [u8_xor x b hx.1 hx.2 hb.1 hb.2]
  have h1 : x.toNat ^^^ b.toNat < 2 ^ 8 := Nat.xor_lt_two_pow (by omega) (by omega)
  refine ⟨⟨by omega, by omega⟩, ?_⟩
  have h2 := xor_nat x.toNat b.toNat
  constructor
  · intro h
    have := h2.1 (by omega)
    omega
  · intro h
    have := h2.2 (by omega)
    omega
end Go.Proofs.Ytjgianmcllkagaa.Wi
