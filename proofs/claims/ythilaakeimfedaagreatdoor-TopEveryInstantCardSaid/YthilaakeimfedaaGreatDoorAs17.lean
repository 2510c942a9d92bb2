/-
  Plain laws for TopEveryInstant: the whole dive with its ascent, as one plan. Conditions: those in front of each theorem; no program in sight.
-/
import Derived.Test.YthilaakeimfedaaGreatDoorAs16
namespace Go.Proofs.YthilaakeimfedaaGreatDoor
/-! ### The seconds of a schedule that was found -/
theorem smS_cons (y : Dl) (A : List Dl) : ∀ k, smS (y :: A) (k + 1) = y.s + smS A k
  | 0 => by show (0 : Int) + y.s = y.s + 0; omega
  | k + 1 => by
    show smS (y :: A) (k + 1) + (dlA (y :: A) (k + 1)).s = y.s + (smS A k + (dlA A k).s)
    rw [smS_cons y A k, show dlA (y :: A) (k + 1) = dlA A k from rfl]
    omega
theorem ris_2 {r : Rl} (h : okRl r) {a b : Int} (hb : b ≤ a) : risR r a b ≤ 2 * (a - b) + 1 := by
  have h1 := h.sp
  unfold risR upZ
  have h2 : (60 * (a - b) + r.sp - 1) / r.sp ≤ 2 * (a - b) + 1 := by
    have h3 : r.sp * (2 * (a - b) + 1 + 1) = r.sp * (2 * (a - b) + 1) + r.sp := by grind
    have h4 : 30 * (2 * (a - b) + 1) ≤ r.sp * (2 * (a - b) + 1) := Int.mul_le_mul_of_nonneg_right h1.1 (by omega)
    have h5 : 60 * (a - b) + r.sp - 1 < r.sp * (2 * (a - b) + 1 + 1) := by omega
    have := Int.ediv_lt_of_lt_mul (show 0 < r.sp by omega) (show 60 * (a - b) + r.sp - 1 < (2 * (a - b) + 1 + 1) * r.sp by rw [Int.mul_comm (2 * (a - b) + 1 + 1)]; exact h5)
    omega
  exact h2
theorem found_sum : ∀ {x : Asc} {A : List Dl}, Found x A → smS A A.length ≤ 3601 * A.length + 2 * x.de
  | _, _, .nil h => by rw [h]; exact Int.le_refl _
  | x, _, .up (A := A) H hd hg h1 hf => by
    have ih := found_sum hf
    have hde := H.de
    have hn := nxt_in H.r (d := x.de) (by omega)
    have e1 : (bhA x (gUp x)).de = nxtR x.r x.de := rfl
    have e2 : (gUp x).s = risR x.r x.de (nxtR x.r x.de) := rfl
    have h2 := ris_2 H.r (show nxtR x.r x.de ≤ x.de by omega)
    rw [List.length_cons, smS_cons, e2]
    rw [e1] at ih
    omega
  | x, _, .sy (A := A) H hd hg h1 hf => by
    have ih := found_sum hf
    have hst := H.r.st
    have e1 : (bhA x (gSy x)).de = x.de := rfl
    have e2 : (gSy x).s = x.r.st := rfl
    rw [List.length_cons, smS_cons, e2]
    rw [e1] at ih
    omega
/-! ### The plan of both -/
def gs2 (gs : List Gs) (ga : List Ag) : List Gs := gs ++ ga.map (·.g)
def shD (n : Nat) (y : Dl) : Dl := ⟨y.s, y.d, y.g + n⟩
def ls2 (gs : List Gs) (ls L : List Dl) : List Dl := ls ++ L.map (shD gs.length)
section
variable {gs : List Gs} {ga : List Ag} {ls L : List Dl} {sf : Int}
theorem gs2_len : (gs2 gs ga).length = gs.length + ga.length := by unfold gs2; rw [List.length_append, List.length_map]
theorem ls2_len : (ls2 gs ls L).length = ls.length + L.length := by unfold ls2; rw [List.length_append, List.length_map]
theorem ls2_lo {k : Nat} (h : k < ls.length) : dlAt (ls2 gs ls L) k = dlAt ls k := by
  unfold dlAt ls2
  rw [List.getElem?_append_left h]
theorem ls2_hi {k : Nat} {y : Dl} (h : L[k]? = some y) : (ls2 gs ls L)[ls.length + k]? = some (shD gs.length y) := by
  unfold ls2
  rw [List.getElem?_append_right (by omega), Nat.add_sub_cancel_left, List.getElem?_map, h]
  rfl
theorem gasAt_lo {i : Int} (h : 0 ≤ i ∧ i < gs.length) : gasAt (gs2 gs ga) i = gasAt gs i := by
  unfold gasAt gs2
  rw [List.getElem?_append_left (by omega)]
theorem gasAt_hi {i : Int} (h : 0 ≤ i) : gasAt (gs2 gs ga) (i + gs.length) = (agAt ga i.toNat).g := by
  unfold gasAt gs2 agAt
  rw [show (i + (gs.length : Int)).toNat = gs.length + i.toNat by omega, List.getElem?_append_right (by omega), Nat.add_sub_cancel_left, List.getElem?_map]
  cases ga[i.toNat]? <;> rfl
theorem sec_lo : ∀ k, k ≤ ls.length → secAt (ls2 gs ls L) k = secAt ls k
  | 0, _ => rfl
  | k + 1, h => by rw [secAt_succ, secAt_succ, sec_lo k (by omega), ls2_lo (by omega)]
theorem sec_hi : ∀ k, k ≤ L.length → secAt (ls2 gs ls L) (ls.length + k) = secAt ls ls.length + smS L k
  | 0, _ => by rw [Nat.add_zero, sec_lo _ (Nat.le_refl _)]; show _ = _ + (0 : Int); omega
  | k + 1, h => by
    obtain ⟨y, hy⟩ := get_some L (k := k) (by omega)
    rw [← smS_s hy, ← Nat.add_assoc, secAt_succ, sec_hi k (by omega), dlAt_get (ls2_hi hy)]
    show _ + _ + y.s = _
    omega
theorem ck2 {nm : ByteArray} (h : (ckPl nm sf gs ls).2 = 0) (hs : secAt ls ls.length ≤ 20000) (hg : ∀ a ∈ ga, ckGas a.g.o a.g.h = 0) (hgl : gs.length + ga.length ≤ 8) (hll : ls.length + L.length ≤ 60)
    (hL : ∀ y ∈ L, (1 ≤ y.s ∧ y.s ≤ 100000) ∧ (0 ≤ y.d ∧ y.d ≤ 30000) ∧ 0 ≤ y.g ∧ y.g ≤ (ga.length : Int) - 1) (hsm : ∀ k, k ≤ L.length → smS L k ≤ 900000) :
    nameP nm ∧ okPl sf (gs2 gs ga) (ls2 gs ls L) ∧ (ckPl nm sf (gs2 gs ga) (ls2 gs ls L)).2 = 0 := by
  obtain ⟨hn, H⟩ := ckPl_ok h
  have h1 := H.sf; have h2 := H.gl
  have hg2 : ∀ g ∈ gs2 gs ga, ckGas g.o g.h = 0 := fun g hm => by
    rcases List.mem_append.1 hm with hm | hm
    · exact H.g g hm
    · obtain ⟨a, ha, rfl⟩ := List.mem_map.1 hm
      exact hg a ha
  have hlo : okSec L := fun y hy => by have := hL y hy; omega
  have hse : ∀ k, k ≤ (ls2 gs ls L).length → 0 ≤ secAt (ls2 gs ls L) k ∧ secAt (ls2 gs ls L) k ≤ 1000000 := fun k hk => by
    rw [ls2_len] at hk
    rcases Nat.lt_or_ge ls.length k with h9 | h9
    · obtain ⟨j, rfl⟩ : ∃ j, k = ls.length + j := ⟨k - ls.length, by omega⟩
      rw [sec_hi j (by omega)]
      have a := H.e ls.length (Nat.le_refl _)
      have b := smS_in hlo j (by omega)
      have c := hsm j (by omega)
      omega
    · rw [sec_lo k h9]; exact H.e k h9
  have hl2 : ∀ x ∈ ls2 gs ls L, okDl (gs2 gs ga).length x := fun x hx => by
    rw [gs2_len]
    rcases List.mem_append.1 hx with hx | hx
    · have a := H.l x hx
      have a1 := a.s; have a2 := a.d; have a3 := a.g
      exact ⟨a1, a2, by omega⟩
    · obtain ⟨y, hy, rfl⟩ := List.mem_map.1 hx
      have a := hL y hy
      exact ⟨by show 1 ≤ y.s ∧ y.s ≤ 1000000; omega, by show 0 ≤ y.d ∧ y.d ≤ 30000; omega, by show 0 ≤ y.g + (gs.length : Int) ∧ y.g + (gs.length : Int) ≤ _; omega⟩
  have hP : okPl sf (gs2 gs ga) (ls2 gs ls L) := ⟨h1, by rw [gs2_len]; omega, hg2, by rw [ls2_len]; omega, hl2, hse⟩
  refine ⟨hn, hP, ?_⟩
  have hgz : ∀ l : List Gs, (∀ g ∈ l, ckGas g.o g.h = 0) → ckGs l = 0 := fun l => by
    induction l with
    | nil => intro _; rfl
    | cons a t ih =>
      intro hh
      unfold ckGs
      rw [if_neg (fun h9 => h9 (hh a List.mem_cons_self))]
      exact ih fun g hg => hh g (List.mem_cons_of_mem _ hg)
  rw [ckPl_7 hn h1 (by rw [gs2_len]; omega) (by rw [gs2_len]; omega) (hgz _ hg2) (by rw [ls2_len]; omega)]
  have := ckLegs_zero (n := ((gs2 gs ga).length : Int)) (ls := ls2 gs ls L) (ls2 gs ls L).length 0 (by omega) fun j _ hj => ⟨by
    obtain ⟨x, hx⟩ := get_some (ls2 gs ls L) hj
    rw [dlAt_get hx]
    exact hl2 x (List.mem_of_getElem? hx), (hse (j + 1) (by omega)).2⟩
  exact congrArg Prod.snd this
end
/-! ### The legs of the plan of both -/
def legX (sf : Int) (gs : List Gs) : Int → List Dl → List Lg
  | _, [] => []
  | d, x :: t => legOf sf d gs x :: legX sf gs x.d t
section
variable {sf : Int} {gs : List Gs}
theorem legX_len : ∀ (l : List Dl) (d : Int), (legX sf gs d l).length = l.length
  | [], _ => rfl
  | x :: t, d => by rw [legX, List.length_cons, legX_len t, List.length_cons]
theorem legX_app : ∀ (a b : List Dl) (d : Int), legX sf gs d (a ++ b) = legX sf gs d a ++ legX sf gs (dpK d a a.length) b
  | [], _, _ => rfl
  | x :: a, b, d => by
    rw [List.cons_append, legX, legX, legX_app a b x.d, List.cons_append]
    congr 3
    cases a with
    | nil => rfl
    | cons y a => rfl
theorem legX_get : ∀ {l : List Dl} {d : Int} {k : Nat} {y : Dl}, l[k]? = some y → (legX sf gs d l)[k]? = some (legOf sf (dpK d l k) gs y)
  | x :: t, d, 0, y, h => by
    obtain rfl := Option.some.inj h
    rfl
  | x :: t, d, k + 1, y, h => by
    have ih := legX_get (l := t) (d := x.d) (k := k) (y := y) h
    rw [legX, List.getElem?_cons_succ, ih]
    congr 2
    cases k <;> rfl
theorem legsF_X : ∀ (l : List Dl) (d : Int) (acc : List Lg), (∀ y ∈ l, (1 ≤ y.s ∧ y.s ≤ 100000) ∧ (0 ≤ y.d ∧ y.d ≤ 30000) ∧ 0 ≤ y.g ∧ y.g ≤ (gs.length : Int) - 1) → legsF sf gs d l acc = (acc ++ legX sf gs d l, 0)
  | [], _, acc, _ => by rw [legX, List.append_nil]; rfl
  | x :: t, d, acc, h => by
    have a := h x List.mem_cons_self
    have hc : ckDl gs.length d x = 0 := by
      unfold ckDl
      rw [if_neg (by omega), if_neg (by omega), if_neg (by omega)]
    rw [legsF, if_neg (fun hh => hh hc), legsF_X t x.d _ (fun y hy => h y (List.mem_cons_of_mem _ hy)), legX, List.append_assoc]
    rfl
theorem legsE_X {l : List Dl} (hs : 400 ≤ sf ∧ sf ≤ 1100) (hgl : gs.length ≤ 8) (hg : ∀ g ∈ gs, ckGas g.o g.h = 0) (hl : l.length ≤ 60) (h : ∀ y ∈ l, (1 ≤ y.s ∧ y.s ≤ 100000) ∧ (0 ≤ y.d ∧ y.d ≤ 30000) ∧ 0 ≤ y.g ∧ y.g ≤ (gs.length : Int) - 1) : legsE sf gs l = (legX sf gs 0 l, 0) := by
  have hgz : ∀ l : List Gs, (∀ g ∈ l, ckGas g.o g.h = 0) → ckGs l = 0 := fun l => by
    induction l with
    | nil => intro _; rfl
    | cons a t ih =>
      intro hh
      unfold ckGs
      rw [if_neg (fun h9 => h9 (hh a List.mem_cons_self))]
      exact ih fun g hg => hh g (List.mem_cons_of_mem _ hg)
  rw [legsE_5 hs (by omega) (hgz gs hg) (by omega), legsF_X l 0 [] h]
  rfl
end
/-! ### The loads behind the legs of both -/
theorem fol_app {ts : List Cp} {ls : List Ld} {a b : List Lg} {f : Nat} : ∀ k, k ≤ a.length → folM ts ls (a ++ b) f k = folM ts ls a f k
  | 0, _ => rfl
  | k + 1, h => by
    obtain ⟨y, hy⟩ := get_some a (k := k) (by omega)
    rw [folM_step hy, folM_step (show (a ++ b)[k]? = some y by rw [List.getElem?_append_left (by omega)]; exact hy), fol_app k (by omega)]
theorem fol_both {x B : Asc} {a b : List Lg} {L : List Dl} (h1 : B.ls = folM x.ts x.ls a (fnA x) a.length) (h2 : B.ts = x.ts) (h3 : B.r = x.r) (h4 : ∀ j y, L[j]? = some y → b[j]? = some (lgA (behA B L j) y)) : ∀ j, j ≤ L.length → folM x.ts x.ls (a ++ b) (fnA x) (a.length + j) = (behA B L j).ls
  | 0, _ => by rw [Nat.add_zero, fol_app _ (Nat.le_refl _)]; exact h1.symm
  | j + 1, h => by
    obtain ⟨y, hy⟩ := get_some L (k := j) (by omega)
    have ih := fol_both h1 h2 h3 h4 j (by omega)
    obtain ⟨e1, _, _, e4⟩ := beh_same B L j
    have e : (a ++ b)[a.length + j]? = some (lgA (behA B L j) y) := by rw [List.getElem?_append_right (by omega), Nat.add_sub_cancel_left]; exact h4 j y hy
    rw [← Nat.add_assoc, folM_step e, ih, behA_s hy]
    show _ = loadedM (behA B L j).ts (behA B L j).ls (lgA (behA B L j) y) (fnA (behA B L j))
    rw [e1, h2, show fnA (behA B L j) = fnA x by unfold fnA; rw [e4, h3]]
theorem dpK_sh {n : Nat} {d : Int} {L : List Dl} (k : Nat) : dpK d (L.map (shD n)) k = dpK d L k := by
  unfold dpK
  by_cases h : k = 0
  · rw [if_pos h, if_pos h]
  · rw [if_neg h, if_neg h]
    unfold dlA
    rw [List.getElem?_map]
    cases L[k - 1]? <;> rfl
theorem beh_de {B : Asc} {L : List Dl} : ∀ k, (behA B L k).de = dpK B.de L k
  | 0 => rfl
  | _ + 1 => rfl
theorem legY {B : Asc} {L : List Dl} {gs : List Gs} {j : Nat} {y : Dl} (hy : L[j]? = some y) (hg : 0 ≤ y.g) : (legX B.su (gs2 gs B.gs) B.de (L.map (shD gs.length)))[j]? = some (lgA (behA B L j) y) := by
  have h : (L.map (shD gs.length))[j]? = some (shD gs.length y) := by rw [List.getElem?_map, hy]; rfl
  rw [legX_get h, dpK_sh, ← beh_de]
  obtain ⟨_, e2, e3, _⟩ := beh_same B L j
  unfold legOf lgA shD
  dsimp only
  rw [gasAt_hi hg, e2, e3]
theorem legX_lo {sf : Int} {gs : List Gs} {ga : List Ag} : ∀ (l : List Dl) (d : Int), (∀ y ∈ l, 0 ≤ y.g ∧ y.g ≤ (gs.length : Int) - 1) → legX sf (gs2 gs ga) d l = legX sf gs d l
  | [], _, _ => rfl
  | x :: t, d, h => by
    have a := h x List.mem_cons_self
    rw [legX, legX, legX_lo t x.d (fun y hy => h y (List.mem_cons_of_mem _ hy))]
    unfold legOf
    rw [gasAt_lo (by omega)]
theorem low_mono {ts : List Cp} {ls : List Ld} {p f g : Int} (hc : ∀ c ∈ ts, okCp c) (hp : 0 ≤ p) (h : f ≤ g) (hl : lowP p f ts ls) : lowP p g ts ls := all2_get fun k c x h1 h2 => by
  have a := all2_at hl k c x h1 h2
  have hok := hc c (List.mem_of_getElem? h1)
  obtain ⟨_, _, _, _, b1, b2, s1, s2⟩ := hok
  have h3 := Int.mul_nonneg (show 0 ≤ c.s - 1000 by omega) hp
  have h4 := Int.mul_le_mul_of_nonneg_right h (show 0 ≤ 1000 * c.b + (c.s - 1000) * p by omega)
  have h5 : limM c p f ≤ limM c p g := by unfold limM; omega
  unfold lw1 at a ⊢
  omega
theorem keep_low {ts : List Cp} {ls : List Ld} {p f : Int} (h : keptM ts ls p f ≠ 0) : lowP p f ts ls := by
  unfold keptM at h
  by_cases h1 : lowP p f ts ls
  · exact h1
  · rw [if_pos h1] at h; exact absurd rfl h
theorem low_kept {ts : List Cp} {ls : List Ld} {p f : Int} (h : lowP p f ts ls) : keptM ts ls p f ≠ 0 := by
  unfold keptM
  rw [if_neg (fun hh => hh h)]
  split <;> decide
theorem fac_hi {r : Rl} (h : okRl r) {d : Int} (hd : 0 ≤ d ∧ d ≤ 30000) : facR r d ≤ r.hi := by
  have h5 := fac_prod h hd
  have h4 := h.an
  unfold facR
  split
  · exact h.le
  · have : 0 ≤ upZ ((r.hi - r.lo) * d) r.an := Int.ediv_nonneg (by omega) (by omega)
    omega
structure EvOk (x B : Asc) (nm : ByteArray) (sf : Int) (gs : List Gs) (ls L : List Dl) : Prop where
  ck : (ckPl nm sf (gs2 gs x.gs) (ls2 gs ls L)).2 = 0
  ok : okPl sf (gs2 gs x.gs) (ls2 gs ls L)
  sec : secAt (ls2 gs ls L) (ls2 gs ls L).length = secAt ls ls.length + smS L L.length
  lg : (legsE sf (gs2 gs x.gs) (ls2 gs ls L)).2 = 0
  ln : (legsE sf (gs2 gs x.gs) (ls2 gs ls L)).1.length = ls.length + L.length
  fol : folC x.ts x.ls (legsE sf (gs2 gs x.gs) (ls2 gs ls L)).1 x.r.fi = 0
  ld : ∀ j, j ≤ L.length → folM x.ts x.ls (legsE sf (gs2 gs x.gs) (ls2 gs ls L)).1 (fnA x) (ls.length + j) = (behA B L j).ls
theorem ev_ok {x B : Asc} {nm : ByteArray} {sf : Int} {gs : List Gs} {ls L : List Dl} (H : okAsc x) (h0 : x.de = 0) (hsf : sf = x.su) (hz : (ckPl nm sf gs ls).2 = 0) (hs : secAt ls ls.length ≤ 20000) (hB : B = bgX x sf gs ls ls.length) (HB : okAsc B) (hF : Found B L) (hck : ∀ i y, L[i]? = some y → ckAl (behA B L i) y = 0) (hgl : gs.length + x.gs.length ≤ 8) (hll : ls.length + L.length ≤ 60) : EvOk x B nm sf gs ls L := by
  have hBt : B.ts = x.ts ∧ B.su = x.su ∧ B.gs = x.gs ∧ B.r = x.r ∧ B.de = dpK x.de ls ls.length := by rw [hB]; exact ⟨rfl, rfl, rfl, rfl, rfl⟩
  obtain ⟨b1, b2, b3, b4, b5⟩ := hBt
  have hal : ∀ y ∈ L, (1 ≤ y.s ∧ y.s ≤ 100000) ∧ (0 ≤ y.d ∧ y.d ≤ 30000) ∧ 0 ≤ y.g ∧ y.g ≤ (x.gs.length : Int) - 1 := fun y hy => by
    obtain ⟨i, hi⟩ := List.getElem?_of_mem hy
    have a := (ckAl_ok (hck i y hi)).1
    have a1 := a.s; have a2 := a.d; have a3 := a.g
    rw [(beh_same B L i).2.2.1, b3] at a3
    exact ⟨a1, a2, a3⟩
  have hsec : okSec L := fun y hy => by have := hal y hy; omega
  have hsum := found_sum hF
  have hde := HB.de
  have hmono : ∀ m k, k + m = L.length → smS L k ≤ smS L L.length := fun m => by
    induction m with
    | zero => intro k hk; rw [show k = L.length by omega]; exact Int.le_refl _
    | succ m ih =>
      intro k hk
      obtain ⟨y, hy⟩ := get_some L (k := k) (by omega)
      have a := ih (k + 1) (by omega)
      rw [← smS_s hy] at a
      have := hal y (List.mem_of_getElem? hy)
      omega
  have hgg : ∀ a ∈ x.gs, ckGas a.g.o a.g.h = 0 := fun a ha => (H.gg a ha).1
  obtain ⟨hn, HP⟩ := ckPl_ok hz
  obtain ⟨_, c2, c3⟩ := ck2 (ga := x.gs) (L := L) hz hs hgg hgl hll hal (fun k hk => by have := hmono (L.length - k) k (by omega); omega)
  have hlsg : ∀ y ∈ ls, (1 ≤ y.s ∧ y.s ≤ 100000) ∧ (0 ≤ y.d ∧ y.d ≤ 30000) ∧ 0 ≤ y.g ∧ y.g ≤ (gs.length : Int) - 1 := fun y hy => by
    have a := HP.l y hy
    have a1 := a.s; have a2 := a.d; have a3 := a.g
    refine ⟨⟨a1.1, ?_⟩, a2, a3⟩
    obtain ⟨i, hi⟩ := List.getElem?_of_mem hy
    have hil := (List.getElem?_eq_some_iff.1 hi).1
    have hp : ∀ m k, k + m = ls.length → secAt ls k ≤ secAt ls ls.length := fun m => by
      induction m with
      | zero => intro k hk; rw [show k = ls.length by omega]; exact Int.le_refl _
      | succ m ih =>
        intro k hk
        have q := ih (k + 1) (by omega)
        have q2 := (HP.at (k := k) (by omega)).s
        rw [secAt_succ] at q
        omega
    have q := hp (ls.length - (i + 1)) (i + 1) (by omega)
    rw [secAt_succ, dlAt_get hi] at q
    have := (HP.e i (by omega)).1
    omega
  have hsu := H.su
  have e1 : legsE sf gs ls = (legX sf gs 0 ls, 0) := legsE_X (by omega) (by have := HP.gl; omega) HP.g HP.ll hlsg
  have hl2 : ∀ y ∈ ls2 gs ls L, (1 ≤ y.s ∧ y.s ≤ 100000) ∧ (0 ≤ y.d ∧ y.d ≤ 30000) ∧ 0 ≤ y.g ∧ y.g ≤ ((gs2 gs x.gs).length : Int) - 1 := fun y hy => by
    rw [gs2_len]
    rcases List.mem_append.1 hy with hy | hy
    · have := hlsg y hy; omega
    · obtain ⟨w, hw, rfl⟩ := List.mem_map.1 hy
      have := hal w hw
      refine ⟨this.1, this.2.1, ?_⟩
      show 0 ≤ w.g + (gs.length : Int) ∧ w.g + (gs.length : Int) ≤ _
      omega
  have e2 : legsE sf (gs2 gs x.gs) (ls2 gs ls L) = (legX sf (gs2 gs x.gs) 0 (ls2 gs ls L), 0) := legsE_X (by omega) (by rw [gs2_len]; omega) c2.g c2.ll hl2
  have e3 : legX sf (gs2 gs x.gs) 0 (ls2 gs ls L) = legX sf gs 0 ls ++ legX B.su (gs2 gs B.gs) B.de (L.map (shD gs.length)) := by
    unfold ls2
    rw [legX_app, legX_lo ls 0 (fun y hy => (hlsg y hy).2.2), b2, b3, b5, h0, hsf]
  have hXl : (legX sf gs 0 ls).length = ls.length := legX_len ls 0
  refine ⟨c3, c2, ?_, by rw [e2], by rw [e2, legX_len, ls2_len], fol_c H, fun j hj => ?_⟩
  · rw [ls2_len]; exact sec_hi L.length (Nat.le_refl _)
  · rw [e2, e3]
    have := fol_both (x := x) (B := B) (a := legX sf gs 0 ls) (b := legX B.su (gs2 gs B.gs) B.de (L.map (shD gs.length))) (L := L) (by
      rw [hB, hXl]
      show folM x.ts x.ls (legsE sf gs ls).1 (fnA x) ls.length = _
      rw [e1]) b1 b4 (fun j y hy => legY hy (hal y (List.mem_of_getElem? hy)).2.2.1) j hj
    rw [hXl] at this
    exact this
theorem ev_legs {x : Asc} {nm : ByteArray} {sf : Int} {gs : List Gs} {ls : List Dl} (H : okAsc x) (h0 : x.de = 0) (hsf : sf = x.su) (hz : (ckPl nm sf gs ls).2 = 0) (hs : secAt ls ls.length ≤ 20000) :
    bgE x sf gs ls = 0 ∧ bgA x sf gs ls = bgX x sf gs ls ls.length ∧ okAsc (bgX x sf gs ls ls.length) ∧ (bgX x sf gs ls ls.length).de = dpK 0 ls ls.length := by
  obtain ⟨hn, HP⟩ := ckPl_ok hz
  have hp : ∀ m k, k + m = ls.length → secAt ls k ≤ secAt ls ls.length := fun m => by
    induction m with
    | zero => intro k hk; rw [show k = ls.length by omega]; exact Int.le_refl _
    | succ m ih =>
      intro k hk
      have q := ih (k + 1) (by omega)
      have q2 := (HP.at (k := k) (by omega)).s
      rw [secAt_succ] at q
      omega
  have hlsg : ∀ y ∈ ls, (1 ≤ y.s ∧ y.s ≤ 100000) ∧ (0 ≤ y.d ∧ y.d ≤ 30000) ∧ 0 ≤ y.g ∧ y.g ≤ (gs.length : Int) - 1 := fun y hy => by
    have a := HP.l y hy
    have a1 := a.s; have a2 := a.d; have a3 := a.g
    refine ⟨⟨a1.1, ?_⟩, a2, a3⟩
    obtain ⟨i, hi⟩ := List.getElem?_of_mem hy
    have hil := (List.getElem?_eq_some_iff.1 hi).1
    have q := hp (ls.length - (i + 1)) (i + 1) (by omega)
    rw [secAt_succ, dlAt_get hi] at q
    have := (HP.e i (by omega)).1
    omega
  have hsu := H.su
  have e1 : legsE sf gs ls = (legX sf gs 0 ls, 0) := legsE_X (by omega) (by have := HP.gl; omega) HP.g HP.ll hlsg
  have h1 : ¬ x.de ≠ 0 := fun hh => hh h0
  have h2 : ¬ sf ≠ x.su := fun hh => hh hsf
  have h3 : ¬ (legsE sf gs ls).2 ≠ 0 := fun hh => hh (by rw [e1])
  obtain ⟨r1, r2⟩ := bg_2 (x := x) (sf := sf) (gs := gs) (ls := ls) H.ck
  have hd : 0 ≤ dpK x.de ls ls.length ∧ dpK x.de ls ls.length ≤ 30000 := by
    cases hl : ls.length with
    | zero => exact H.de
    | succ k =>
      obtain ⟨y, hy⟩ := get_some ls (k := k) (by omega)
      rw [← dpK_s hy]
      exact (hlsg y (List.mem_of_getElem? hy)).2.1
  refine ⟨by rw [r1, beg_3 h1 h2, e1], by rw [r2, beg_5 h1 h2 h3], bgX_ok H _ hd, ?_⟩
  show dpK x.de ls ls.length = _
  rw [h0]
theorem tk_g {ga : List Ag} {gs : List Gs} {k : Nat} {w : Ag} (h : ga[k]? = some w) : gs ++ (ga.map (·.g)).take (k + 1) = (gs ++ (ga.map (·.g)).take k) ++ [w.g] := by
  rw [List.take_add_one, List.getElem?_map, h, List.append_assoc]
  rfl
theorem tk_l {n : Nat} {ls L : List Dl} {k : Nat} {y : Dl} (h : L[k]? = some y) : ls ++ (L.map (shD n)).take (k + 1) = (ls ++ (L.map (shD n)).take k) ++ [shD n y] := by
  rw [List.take_add_one, List.getElem?_map, h, List.append_assoc]
  rfl
theorem tk_ge (gs : List Gs) (ga : List Ag) {k : Nat} (h : ga.length ≤ k) : gs ++ (ga.map (·.g)).take k = gs2 gs ga := by
  rw [List.take_of_length_le (by rw [List.length_map]; exact h)]
  rfl
theorem tk_le (gs : List Gs) (ls L : List Dl) {k : Nat} (h : L.length ≤ k) : ls ++ (L.map (shD gs.length)).take k = ls2 gs ls L := by
  rw [List.take_of_length_le (by rw [List.length_map]; exact h)]
  rfl
theorem gs_snoc (G : List Gs) (g : Gs) : G.map cGs ++ [cGs g] = (G ++ [g]).map cGs := by rw [List.map_append]; rfl
theorem ins_same {ts : List Cp} {a : List Ld} (h : okTL ts a) : insV a a = true ∧ insC a a = 0 :=
  ⟨decide_eq_true ⟨insC_ok h h, all2_get fun k y z h1 h2 => by
    obtain rfl := Option.some.inj (h1.symm.trans h2)
    exact ⟨⟨Int.le_refl _, Int.le_refl _⟩, Int.le_refl _, Int.le_refl _⟩⟩, insC_ok h h⟩
def diveP (x : Asc) (nm : ByteArray) (sf : Int) (gs : List Gs) (ls : List Dl) : Prop := (ckPl nm sf gs ls).2 = 0 ∧ lightP x ∧ ckAsc x = 0 ∧ x.de = 0 ∧ sf = x.su ∧ ls.length ≤ 5 ∧ secAt ls ls.length ≤ 20000
instance (x : Asc) (nm : ByteArray) (sf : Int) (gs : List Gs) (ls : List Dl) : Decidable (diveP x nm sf gs ls) := by unfold diveP; infer_instance
theorem ev_kept {B : Asc} {L : List Dl} {k : Nat} {y : Dl} {fn : Nat} (HB : okAsc B) (hck : ∀ i z, L[i]? = some z → ckAl (behA B L i) z = 0) (hy : L[k]? = some y) (hf : fn ≤ 6) (h2 : keptT (behA B L k).ts (behA B L k).ls (lgA (behA B L k) y) (faA (behA B L k)) fn = 2) :
    okTL B.ts (behA B L (k + 1)).ls ∧ ckAt B.ts (behA B L (k + 1)).ls (B.su + y.d) (facR B.r (behA B L k).de) = 0 ∧ keptM B.ts (behA B L (k + 1)).ls (B.su + y.d) (facR B.r (behA B L k).de) ≠ 0 := by
  have hkl := (List.getElem?_eq_some_iff.1 hy).1
  have HX := beh_ok HB (L := L) (k := k) (by omega) fun i _ => hck i
  have hal := (ckAl_ok (hck k y hy)).1
  have hfn := fnA_in HX
  obtain ⟨e1, e2, _, e4⟩ := beh_same B L k
  have hys := hal.s
  obtain ⟨_, h3, h4, h5⟩ := at_inst (g := fnA (behA B L k)) (s := y.s) (d := y.d - (behA B L k).de) HX hal hf hfn.2 ⟨by omega, Int.le_refl _⟩ (Int.mul_comm _ _) h2
  have e5 : (behA B L k).su + (behA B L k).de + (y.d - (behA B L k).de) = (behA B L k).su + y.d := by omega
  rw [e5] at h3 h4 h5
  have e6 : (behA B L (k + 1)).ls = loadedM (behA B L k).ts (behA B L k).ls (lgA (behA B L k) y) (fnA (behA B L k)) := by rw [behA_s hy]; rfl
  rw [← e1, e6, ← e2, ← e4]
  exact ⟨h4, ckAt_yes h4 h3 (fac_in HX.r HX.de), h5⟩
theorem ev_top {B : Asc} {L : List Dl} {k : Nat} {y : Dl} {fn : Nat} (HB : okAsc B) (hck : ∀ i z, L[i]? = some z → ckAl (behA B L i) z = 0) (hy : L[k]? = some y) (hf : fn ≤ 6) (h2 : keptT (behA B L k).ts (behA B L k).ls (lgA (behA B L k) y) (faA (behA B L k)) fn = 2) (h0 : y.d = 0) :
    ckAt B.ts (behA B L (k + 1)).ls B.su B.r.hi = 0 ∧ keptM B.ts (behA B L (k + 1)).ls B.su B.r.hi ≠ 0 := by
  have hkl := (List.getElem?_eq_some_iff.1 hy).1
  obtain ⟨h3, h4, h5⟩ := ev_kept HB hck hy hf h2
  have HX := beh_ok HB (L := L) (k := k) (by omega) fun i _ => hck i
  obtain ⟨e1, e2, _, e4⟩ := beh_same B L k
  have hsu := HB.su; have hhi := HB.r.hi
  rw [h0, Int.add_zero] at h5
  refine ⟨ckAt_yes h3 (show 400 ≤ B.su ∧ B.su ≤ 31100 by omega) hhi, low_kept (low_mono h3.c (by omega) (fac_hi HB.r HX.de) (keep_low h5))⟩
end Go.Proofs.YthilaakeimfedaaGreatDoor
