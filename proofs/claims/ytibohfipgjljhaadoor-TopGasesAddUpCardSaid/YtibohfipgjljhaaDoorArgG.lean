/-
  What an aim of chapter 1 reads as. Conditions: those in front of each theorem.
-/
import Derived.Test.YtibohfipgjljhaaDoorGm
import Derived.Test.YtibohfipgjljhaaDoorEncQ
import Derived.Test.YtibohfipgjljhaaDoorArgP
namespace Go.Proofs.YtibohfipgjljhaaDoor
structure Gp where
  o : Int
  h : Int
  a : Int
def cGp (x : Gp) : List Value := [.int .i64 x.o, .int .i64 x.h, .int .i64 x.a]
def cAi (a : Aim) : List Value := [.int .i64 a.su, .int .i64 a.de, .int .i64 a.le, .int .i64 a.mo, .int .i64 a.na]
def cAp (a : Aim) : List Value := [.int .i64 a.su, .int .i64 a.de, .int .i64 a.le, .int .i64 a.mo, .int .i64 a.na, .int .i64 (a.su + a.de)]
def gpAt (l : List Gp) (k : Nat) : Gp := (l[k]?).getD ⟨0, 0, 0⟩
theorem gpAt_get {l : List Gp} {k : Nat} {x : Gp} (h : l[k]? = some x) : gpAt l k = x := by unfold gpAt; rw [h]; rfl
/-- the amounts of the first parts: all, and those of the three gases -/
def smA (l : List Gp) : Nat → Int
  | 0 => 0
  | k + 1 => smA l k + (gpAt l k).a
def smO (l : List Gp) : Nat → Int
  | 0 => 0
  | k + 1 => smO l k + (gpAt l k).o * (gpAt l k).a
def smH (l : List Gp) : Nat → Int
  | 0 => 0
  | k + 1 => smH l k + (gpAt l k).h * (gpAt l k).a
def smN (l : List Gp) : Nat → Int
  | 0 => 0
  | k + 1 => smN l k + (1000 - (gpAt l k).o - (gpAt l k).h) * (gpAt l k).a
def okGp (x : Gp) : Prop := ckGas x.o x.h = 0 ∧ 0 ≤ x.a ∧ x.a ≤ 1000000000
theorem sm_in {l : List Gp} (h : ∀ x ∈ l, okGp x) : ∀ k : Nat, k ≤ l.length → (0 ≤ smA l k ∧ smA l k ≤ k * 1000000000) ∧ (0 ≤ smO l k ∧ smO l k ≤ k * 1000000000000) ∧ (0 ≤ smH l k ∧ smH l k ≤ k * 1000000000000) ∧ (0 ≤ smN l k ∧ smN l k ≤ k * 1000000000000)
  | 0, _ => ⟨by show (0 : Int) ≤ 0 ∧ (0 : Int) ≤ _; omega, by show (0 : Int) ≤ 0 ∧ (0 : Int) ≤ _; omega, by show (0 : Int) ≤ 0 ∧ (0 : Int) ≤ _; omega, by show (0 : Int) ≤ 0 ∧ (0 : Int) ≤ _; omega⟩
  | k + 1, hk => by
    obtain ⟨a1, a2, a3, a4⟩ := sm_in h k (by omega)
    obtain ⟨x, hx⟩ := get_some l (show k < l.length by omega)
    obtain ⟨hg, h0, h1⟩ := h x (List.mem_of_getElem? hx)
    have hg2 := ckGas_ok hg
    have e := gpAt_get hx
    have p1 := mulB (a := x.o) (b := x.a) (A := 1000) (B := 1000000000) (by omega) (by omega)
    have p2 := mulB (a := x.h) (b := x.a) (A := 1000) (B := 1000000000) (by omega) (by omega)
    have p3 := mulB (a := 1000 - x.o - x.h) (b := x.a) (A := 1000) (B := 1000000000) (by omega) (by omega)
    have e1 : smA l (k + 1) = smA l k + x.a := by show _ + (gpAt l k).a = _; rw [e]
    have e2 : smO l (k + 1) = smO l k + x.o * x.a := by show _ + (gpAt l k).o * (gpAt l k).a = _; rw [e]
    have e3 : smH l (k + 1) = smH l k + x.h * x.a := by show _ + (gpAt l k).h * (gpAt l k).a = _; rw [e]
    have e4 : smN l (k + 1) = smN l k + (1000 - x.o - x.h) * x.a := by show _ + (1000 - (gpAt l k).o - (gpAt l k).h) * (gpAt l k).a = _; rw [e]
    rw [e1, e2, e3, e4]
    omega
/-- the sums on the way: behind k whole parts, and i numbers of the next -/
def smK (l : List Gp) (k : Nat) : Nat → List Value
  | 0 => [.int .i64 (smA l (k + 1)), .int .i64 (smO l k), .int .i64 (smH l k), .int .i64 (smN l k)]
  | 1 => [.int .i64 (smA l (k + 1)), .int .i64 (smO l (k + 1)), .int .i64 (smH l k), .int .i64 (smN l k)]
  | 2 => [.int .i64 (smA l (k + 1)), .int .i64 (smO l (k + 1)), .int .i64 (smH l (k + 1)), .int .i64 (smN l k)]
  | _ => [.int .i64 (smA l (k + 1)), .int .i64 (smO l (k + 1)), .int .i64 (smH l (k + 1)), .int .i64 (smN l (k + 1))]
def smC (l : List Gp) (k : Nat) : List Value := [.int .i64 (smA l k), .int .i64 (smO l k), .int .i64 (smH l k), .int .i64 (smN l k)]
def exL : List Gp := [⟨1000, 0, 1000⟩, ⟨210, 0, 3000⟩]
theorem exL_ok : ∀ x ∈ exL, okGp x := by
  intro x hx
  simp only [exL, List.mem_cons, List.not_mem_nil, or_false] at hx
  rcases hx with rfl | rfl <;> exact ⟨by decide, by decide, by decide⟩
theorem gcd_step (a b : Nat) : Nat.gcd b (a % b) = Nat.gcd a b := by
  rw [Nat.gcd_comm a b, Nat.gcd_rec b a, Nat.gcd_comm]
theorem ckRP {a b : Int} : (if a ≤ b then (0 : Int) else 2) = 0 ↔ a ≤ b := by split <;> omega
/-- with an aim -/
theorem aim_first {a : Aim} (H : okAim a) : firstE [if 400 ≤ a.su ∧ a.su ≤ 1100 then 0 else 2, if 0 ≤ a.de ∧ a.de ≤ 30000 then 0 else 2, ckLim a.le a.mo, if 0 ≤ a.na ∧ a.na ≤ 30000 then 0 else 2] = 0 := by
  have hl : ckLim a.le a.mo = 0 := by
    have := H.l
    unfold ckLim
    rw [if_neg (by omega), if_neg (by omega)]
  rw [if_pos H.su, if_pos H.de, hl, if_pos H.na]
  rfl
theorem okAim.lim {a : Aim} (H : okAim a) : ckLim a.le a.mo = 0 := by
  have := H.l
  unfold ckLim
  rw [if_neg (by omega), if_neg (by omega)]
def bstK : Nat → Int
  | 0 => -1
  | 1 => -1
  | _ => 1
def mxK : Nat → List Value
  | 0 => [.int .i64 0, .int .i64 0, .int .i64 0, .int .i64 0, .int .i64 0, .int .i64 0]
  | 1 => [.int .i64 163, .int .i64 400, .int .i64 0, .int .i64 0, .int .i64 0, .int .i64 0]
  | 2 => [.int .i64 163, .int .i64 400, .int .i64 0, .int .i64 1, .int .i64 0, .int .i64 0]
  | _ => [.int .i64 163, .int .i64 400, .int .i64 0, .int .i64 1, .int .i64 237, .int .i64 400]
end Go.Proofs.YtibohfipgjljhaaDoor
namespace Go.Proofs.YtibohfipgjljhaaDoor
open Go.RowKit
variable {P : Program} {W : World} {t : TypeId}
theorem opn_aim (h : IT P t 5) : Opn P W t (fun cs => ∃ a : Aim, (i64 a.su ∧ i64 a.de ∧ i64 a.le ∧ i64 a.mo ∧ i64 a.na) ∧ cs = cAi a) := (h W).mono fun cs ⟨xs, hl, hq, hc⟩ => by
  match xs, hl with
  | [a, b, c, d, e], _ => exact ⟨⟨a, b, c, d, e⟩, ⟨hq a (by simp), hq b (by simp), hq c (by simp), hq d (by simp), hq e (by simp)⟩, hc⟩
end Go.Proofs.YtibohfipgjljhaaDoor
