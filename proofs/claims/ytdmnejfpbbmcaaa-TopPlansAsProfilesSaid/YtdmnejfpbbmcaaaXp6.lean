/-
  Plain models of chapter 5: switches, oxygen, single legs, points of a plan. Conditions: none; no program in sight.
-/
import Derived.Test.YtdmnejfpbbmcaaaXp4
namespace Go.Proofs.Ytdmnejfpbbmcaaa
def nmD : ByteArray := ⟨#[112]⟩
def gsD : List Gs := [⟨210, 0⟩, ⟨500, 0⟩]
def lsD : List Dl := [⟨60, 1800, 0⟩, ⟨600, 1800, 0⟩, ⟨120, 600, 0⟩, ⟨300, 600, 1⟩]
def ruD : Ru := ⟨[⟨500, 100⟩, ⟨1000, 300⟩], 160, 1400, 3000, 5200, 20000, 40000, 60, 1000⟩
theorem nameD : nameP nmD := by decide
theorem ckPD : ckPl nmD 1013 gsD lsD = (0, 0) := by
  rw [ckPl_7 nameD (by decide) (by decide) (by decide) (by decide) (by decide)]
  rfl
theorem ckRD : ckRu ruD = 0 := by decide
theorem bothD : bothE nmD 1013 gsD lsD ruD = 0 := by
  rw [bothE_2 (by rw [ckPD]), ckRD]
end Go.Proofs.Ytdmnejfpbbmcaaa
namespace Go.Proofs.Ytdmnejfpbbmcaaa
section
variable {nm : ByteArray} {sf n b c : Int} {gs : List Gs} {ls : List Dl} {r : Ru} {k : Nat}
/-! ### Switches -/
abbrev sameG (a b : Gs) : Prop := a.o = b.o ∧ a.h = b.h
/-! ### Single legs -/
/-! ### Points -/
def ptsK (ls : List Dl) (k : Nat) : List (Int × Int) := (List.range (k + 1)).map fun i => (secAt ls i, depAt ls i)
theorem ptsK_len (ls : List Dl) (k : Nat) : (ptsK ls k).length = k + 1 := by simp [ptsK]
theorem ptsK_get {i : Nat} (h : i ≤ k) : (ptsK ls k)[i]? = some (secAt ls i, depAt ls i) := by
  unfold ptsK
  rw [List.getElem?_map, List.getElem?_range (by omega)]
  rfl
theorem ptsK_succ (ls : List Dl) (k : Nat) : ptsK ls (k + 1) = ptsK ls k ++ [(secAt ls (k + 1), depAt ls (k + 1))] := by
  unfold ptsK
  rw [List.range_succ, List.map_append]
  rfl
def atN (ls : List Dl) (k : Nat) (c : Int) : Int := depAt ls k * (secAt ls (k + 1) - secAt ls k) + (depAt ls (k + 1) - depAt ls k) * (c - secAt ls k)
theorem atN_dp (sf : Int) (gs : List Gs) (ls : List Dl) (k : Nat) (c : Int) : atN ls k c = dpS (legAt sf gs ls k) (c - secAt ls k) := by
  have e1 : (legAt sf gs ls k).f - (legAt sf gs ls k).sf = depAt ls k := by show sf + depAt ls k - sf = _; omega
  have e2 : (legAt sf gs ls k).t - (legAt sf gs ls k).sf = depAt ls (k + 1) := by show sf + (dlAt ls k).d - sf = (dlAt ls k).d; omega
  have e3 : (legAt sf gs ls k).x.s = (dlAt ls k).s := rfl
  unfold atN dpS
  rw [e1, e2, e3, secAt_succ]
  grind
theorem atN_in (H : okPl sf gs ls) (hk : k < ls.length) (h0 : secAt ls k ≤ c) (h1 : c ≤ secAt ls (k + 1)) :
    (0 ≤ depAt ls k * (secAt ls (k + 1) - secAt ls k) ∧ depAt ls k * (secAt ls (k + 1) - secAt ls k) ≤ 30000000000) ∧ (-30000000000 ≤ (depAt ls (k + 1) - depAt ls k) * (c - secAt ls k) ∧ (depAt ls (k + 1) - depAt ls k) * (c - secAt ls k) ≤ 30000000000) ∧ 0 ≤ atN ls k c ∧ atN ls k c ≤ 30000 * (secAt ls (k + 1) - secAt ls k) := by
  have hd := H.dep (k := k) (by omega)
  have hd2 := H.dep (k := k + 1) (by omega)
  have hs := (H.at hk).s
  have e := secAt_succ ls k
  have a := mulB (a := depAt ls k) (b := secAt ls (k + 1) - secAt ls k) (A := 30000) (B := 1000000) (by omega) (by omega)
  have b1 := mulB (a := depAt ls (k + 1)) (b := c - secAt ls k) (A := 30000) (B := 1000000) (by omega) (by omega)
  have b2 := mulB (a := depAt ls k) (b := c - secAt ls k) (A := 30000) (B := 1000000) (by omega) (by omega)
  have e2 : (depAt ls (k + 1) - depAt ls k) * (c - secAt ls k) = depAt ls (k + 1) * (c - secAt ls k) - depAt ls k * (c - secAt ls k) := by rw [Int.sub_mul]
  have h9 := (dpS_in (H.le hk) (s := c - secAt ls k) (by show 0 ≤ c - secAt ls k ∧ c - secAt ls k ≤ (dlAt ls k).s; omega)).2.2
  rw [← atN_dp] at h9
  have e3 : (legAt sf gs ls k).x.s = (dlAt ls k).s := rfl
  rw [e3] at h9
  exact ⟨⟨a.1, by omega⟩, by omega, h9.1, by omega⟩
/-! ### Short plans -/
end
end Go.Proofs.Ytdmnejfpbbmcaaa
