/-
  Plain laws of chapter 5: a leg that is divided in two. Conditions: none; no program in sight.
-/
import Derived.Test.YtdmnejfpbbmcaaaXp6
import Derived.Test.YtdmnejfpbbmcaaaShMid
namespace Go.Proofs.Ytdmnejfpbbmcaaa
section
variable {nm : ByteArray} {sf n b c : Int} {gs : List Gs} {ls : List Dl} {r : Ru} {k : Nat}
end
end Go.Proofs.Ytdmnejfpbbmcaaa
namespace Go.Proofs.Ytdmnejfpbbmcaaa
section
variable {g : Gs} {sf a b : Int} {r : Ru} {k : Nat}
end
end Go.Proofs.Ytdmnejfpbbmcaaa
namespace Go.Proofs.Ytdmnejfpbbmcaaa
section
variable {nm : ByteArray} {g : Gs} {sf a b : Int} {r : Ru} {k j : Nat} {gs : List Gs} {ls : List Dl}
/-! ### Within the depths -/
end
end Go.Proofs.Ytdmnejfpbbmcaaa
namespace Go.Proofs.Ytdmnejfpbbmcaaa
section
variable {g : Gs} {sf a b : Int} {r : Ru} {k j : Nat} {gs : List Gs} {ls : List Dl}
end
end Go.Proofs.Ytdmnejfpbbmcaaa
namespace Go.Proofs.Ytdmnejfpbbmcaaa
section
variable {nm : ByteArray} {sf : Int} {r : Ru} {gs : List Gs} {ls : List Dl} {am : List Int}
/-! ### The first second that is not survived -/
end
end Go.Proofs.Ytdmnejfpbbmcaaa
namespace Go.Proofs.Ytdmnejfpbbmcaaa
theorem mod_yes {n b : Int} (hb : 1 ≤ b) (h : n.tmod b < 0) : n.tmod b + b = n % b := by
  have h1 := Int.mul_tdiv_add_tmod n b
  have h2 := Int.lt_tmod_of_pos n (show 0 < b by omega)
  have h3 : (n.tmod b + b) + b * (n.tdiv b - 1) = n := by rw [Int.mul_sub, Int.mul_one]; omega
  exact ((Int.ediv_emod_unique (show 0 < b by omega)).2 ⟨h3, by omega, by omega⟩).2.symm
theorem mod_no {n b : Int} (hb : 1 ≤ b) (h : ¬ n.tmod b < 0) : n.tmod b = n % b := by
  have h1 := Int.mul_tdiv_add_tmod n b
  have h2 := Int.tmod_lt_of_pos n (show 0 < b by omega)
  have h3 : n.tmod b + b * n.tdiv b = n := by omega
  exact ((Int.ediv_emod_unique (show 0 < b by omega)).2 ⟨h3, by omega, by omega⟩).2.symm
section
variable {nm : ByteArray} {sf : Int} {r : Ru} {gs : List Gs} {ls : List Dl} {L : List (Int × Int)} {n σ : Nat}
def upP (r : Ru) (sf : Int) (gs : List Gs) (ls : List Dl) (σ : Nat) (x : Int × Int) : Prop := x.2 < 0 ∨ aN r sf gs ls σ > x.1
instance (σ : Nat) (x : Int × Int) : Decidable (upP r sf gs ls σ x) := by unfold upP; infer_instance
end
end Go.Proofs.Ytdmnejfpbbmcaaa
namespace Go.Proofs.Ytdmnejfpbbmcaaa
section
variable {nm : ByteArray} {sf : Int} {r : Ru} {gs : List Gs} {ls : List Dl} {k i : Nat} {c : Int} {tb : List Ow}
def dvP (ls : List Dl) (k : Nat) (c : Int) : Prop := 0 < c ∧ c < (dlAt ls k).s ∧ (((dlAt ls k).d - depAt ls k) * c) % (dlAt ls k).s = 0
instance (ls : List Dl) (k : Nat) (c : Int) : Decidable (dvP ls k c) := by unfold dvP; infer_instance
theorem ckLegs_zero {n : Int} : ∀ (m k : Nat), k + m = ls.length → (∀ j, k ≤ j → j < ls.length → okDl n (dlAt ls j) ∧ secAt ls (j + 1) ≤ 1000000) → ckLegs n k (secAt ls k) (ls.drop k) = (0, 0)
  | 0, k, hm, _ => ckLegs_end (by omega)
  | m + 1, k, hm, h => by
    obtain ⟨x, hx⟩ := get_some ls (show k < ls.length by omega)
    have h1 := h k (Nat.le_refl _) (by omega)
    rw [dlAt_get hx, secAt_succ, dlAt_get hx] at h1
    have hc : ckDl1 n (secAt ls k) x = 0 := by
      have a := h1.1.s; have b := h1.1.d; have g := h1.1.g
      unfold ckDl1
      rw [if_neg (fun hh => hh ⟨a.1, a.2, b.1, b.2⟩), if_neg (fun hh => hh g), if_neg (by omega)]
    have e1 : secAt ls (k + 1) = secAt ls k + x.s := by rw [secAt_succ, dlAt_get hx]
    rw [ckLegs_ok hx hc, ← e1]
    exact ckLegs_zero m (k + 1) (by omega) (fun j hj hl => h j (by omega) hl)
/-! ### Costs -/
/-! ### The legs of the divided plan -/
end
end Go.Proofs.Ytdmnejfpbbmcaaa
