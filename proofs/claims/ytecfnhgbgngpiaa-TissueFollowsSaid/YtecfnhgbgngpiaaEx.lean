/-
  Values of the models of chapter 3 at the document's examples. Conditions: none; no program in sight.
-/
import Derived.Test.YtecfnhgbgngpiaaEnc
namespace Go.Proofs.Ytecfnhgbgngpiaa
theorem rmk_gt (x : Lg) (n : Nat) : 0 < rmk x n := by unfold rmk; split <;> omega
theorem stM_end {ts : List Cp} {ls : List Ld} {x : Lg} {f n k : Nat} (hn : n = 2 ^ f) (hk : k + 1 = rmk x n) : stM f ts ls x n k = loadedM ts ls x f := by
  by_cases h0 : x.s = 0
  · rw [rmk_one h0] at hk
    have : k = 0 := by omega
    subst this
    rw [loadedM_zero h0]
    rfl
  · rw [rmk_pos h0] at hk
    have : k = n := by omega
    subst this
    rw [loadedM_pos h0 hn]
theorem rootS_at {a b c d e : Int} (h1 : 0 ≤ c ∧ c * c ≤ 1000000000 * a ∧ 1000000000 * a < (c + 1) * (c + 1)) (h2 : 0 ≤ d ∧ d * d ≤ 1000000000 * b ∧ 1000000000 * b < (d + 1) * (d + 1)) (he : (if d * d < 1000000000 * b then d + 1 else d) = e) : rootS ⟨a, b⟩ = ⟨c, e⟩ := by
  unfold rootS
  rw [← sqrZ_uniq (r := c) h1.1 h1.2.1 h1.2.2, ← sqrZ_uniq (r := d) h2.1 h2.2.1 h2.2.2, he]
theorem rv0 : rootR 0 = ⟨500000000, 500000000⟩ := rfl
theorem rv1 : rootR 1 = ⟨707106781, 707106782⟩ := by
  show rootS (rootR 0) = _
  rw [rv0]
  exact rootS_at (d := 707106781) (by decide) (by decide) (by decide)
theorem rv2 : rootR 2 = ⟨840896415, 840896416⟩ := by
  show rootS (rootR 1) = _
  rw [rv1]
  exact rootS_at (d := 840896415) (by decide) (by decide) (by decide)
theorem rv3 : rootR 3 = ⟨917004043, 917004044⟩ := by
  show rootS (rootR 2) = _
  rw [rv2]
  exact rootS_at (d := 917004043) (by decide) (by decide) (by decide)
theorem rv4 : rootR 4 = ⟨957603280, 957603282⟩ := by
  show rootS (rootR 3) = _
  rw [rv3]
  exact rootS_at (d := 957603281) (by decide) (by decide) (by decide)
theorem rv5 : rootR 5 = ⟨978572061, 978572063⟩ := by
  show rootS (rootR 4) = _
  rw [rv4]
  exact rootS_at (d := 978572062) (by decide) (by decide) (by decide)
theorem rv6 : rootR 6 = ⟨989228012, 989228014⟩ := by
  show rootS (rootR 5) = _
  rw [rv5]
  exact rootS_at (d := 989228013) (by decide) (by decide) (by decide)
theorem rv7 : rootR 7 = ⟨994599422, 994599424⟩ := by
  show rootS (rootR 6) = _
  rw [rv6]
  exact rootS_at (d := 994599423) (by decide) (by decide) (by decide)
theorem rv8 : rootR 8 = ⟨997296055, 997296057⟩ := by
  show rootS (rootR 7) = _
  rw [rv7]
  exact rootS_at (d := 997296056) (by decide) (by decide) (by decide)
theorem rv9 : rootR 9 = ⟨998647112, 998647114⟩ := by
  show rootS (rootR 8) = _
  rw [rv8]
  exact rootS_at (d := 998647113) (by decide) (by decide) (by decide)
theorem rv10 : rootR 10 = ⟨999323327, 999323329⟩ := by
  show rootS (rootR 9) = _
  rw [rv9]
  exact rootS_at (d := 999323328) (by decide) (by decide) (by decide)
theorem rts10 : rts 10 = [⟨500000000, 500000000⟩, ⟨707106781, 707106782⟩, ⟨840896415, 840896416⟩, ⟨917004043, 917004044⟩, ⟨957603280, 957603282⟩, ⟨978572061, 978572063⟩, ⟨989228012, 989228014⟩, ⟨994599422, 994599424⟩, ⟨997296055, 997296057⟩, ⟨998647112, 998647114⟩, ⟨999323327, 999323329⟩] := by
  show [rootR 0, rootR 1, rootR 2, rootR 3, rootR 4, rootR 5, rootR 6, rootR 7, rootR 8, rootR 9, rootR 10] = _
  rw [rv0, rv1, rv2, rv3, rv4, rv5, rv6, rv7, rv8, rv9, rv10]
theorem dv600 : decM 300 600 10 = ⟨707106781, 707106782⟩ := by
  unfold decM
  rw [rts10, rv10]
  kernel_rfl
theorem dv240 : decM 300 240 10 = ⟨420448207, 420448208⟩ := by
  unfold decM
  rw [rts10, rv10]
  kernel_rfl
abbrev oneC : Cp := ⟨600, 240, 500, 1500⟩
abbrev freshL : Ld := ⟨⟨740230, 740230⟩, ⟨0, 0⟩⟩
abbrev downL : Lg := ⟨1000, 4000, 600, ⟨210, 0⟩⟩
theorem st1_ex : stM 1 [oneC] [freshL] downL 2 1 = [⟨⟨740230, 1087309⟩, ⟨0, 0⟩⟩] := by
  have e : stM 1 [oneC] [freshL] downL 2 1 = [⟨nearM ⟨740230, 740230⟩ 740230 1925230 (decM 300 600 10), nearM ⟨0, 0⟩ 0 0 (decM 300 240 10)⟩] := by kernel_rfl
  rw [e, dv600, dv240]
  rfl
theorem st2_ex : stM 1 [oneC] [freshL] downL 2 2 = [⟨⟨1087308, 1679809⟩, ⟨0, 0⟩⟩] := by
  have e : stM 1 [oneC] [freshL] downL 2 2 = stepM 10 300 2500 4000 ⟨210, 0⟩ [oneC] (stM 1 [oneC] [freshL] downL 2 1) := by kernel_rfl
  rw [e, st1_ex]
  have e2 : stepM 10 300 2500 4000 ⟨210, 0⟩ [oneC] [⟨⟨740230, 1087309⟩, ⟨0, 0⟩⟩] = [⟨nearM ⟨740230, 1087309⟩ 1925230 3110230 (decM 300 600 10), nearM ⟨0, 0⟩ 0 0 (decM 300 240 10)⟩] := by kernel_rfl
  rw [e2, dv600, dv240]
  rfl
theorem loaded_ex : loadedE [oneC] [freshL] downL 1 = ([⟨⟨1087308, 1679809⟩, ⟨0, 0⟩⟩], 0) := by
  have h := loadedE_4 (ts := [oneC]) (ls := [freshL]) (x := downL) (f := 1) (by decide) (by decide) (by decide)
  rw [loadedM_pos (n := 2) (by decide) rfl, st2_ex] at h
  exact h
theorem ceil_ex : ceilE [oneC] [⟨⟨1925230, 1925230⟩, ⟨0, 0⟩⟩] 500 = (⟨1341, 1341⟩, 0) := by kernel_rfl
theorem root_ex : rootOfM 2 = (⟨840896415, 840896416⟩, 0) := by
  have h : rootOfM 2 = (rootR 2, 0) := by kernel_rfl
  rw [h, rv2]
end Go.Proofs.Ytecfnhgbgngpiaa
