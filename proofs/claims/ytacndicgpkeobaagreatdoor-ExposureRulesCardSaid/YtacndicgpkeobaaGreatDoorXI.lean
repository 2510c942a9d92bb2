/-
  Walks: each function named returns what its model says. Conditions: those in front of each theorem.
-/
import Derived.Test.YtacndicgpkeobaaGreatDoorArgP
import Derived.Test.YtacndicgpkeobaaGreatDoorXp3
import Derived.Test.YtacndicgpkeobaaGreatDoorXH
import Derived.Test.YtacndicgpkeobaaGreatDoorShStop
namespace Go.Proofs.YtacndicgpkeobaaGreatDoor

/-! ### The legs at the seconds of a plan -/
def secN (ls : List Dl) (k : Nat) : Nat := (secAt ls k).toNat
def rnN (ls : List Dl) : Nat → Nat
  | 0 => 0
  | k + 1 => secN ls (k + 1) + 1
theorem rnN_pos {ls : List Dl} {k : Nat} (h : 0 < k) : rnN ls k = secN ls k + 1 := by
  cases k with
  | zero => omega
  | succ k => rfl
theorem rnN_zero {ls : List Dl} {k : Nat} (h : k = 0) : rnN ls k = secN ls k + 0 := by subst h; rfl
section
variable {sf : Int} {gs : List Gs} {ls : List Dl}
theorem secN_eq (H : okPl sf gs ls) {k : Nat} (hk : k ≤ ls.length) : (secN ls k : Int) = secAt ls k := Int.toNat_of_nonneg (H.e k hk).1
theorem secAt_succ (ls : List Dl) (k : Nat) : secAt ls (k + 1) = secAt ls k + (dlAt ls k).s := rfl
theorem secN_succ (H : okPl sf gs ls) {k : Nat} (hk : k < ls.length) : (secN ls (k + 1) : Int) = (secN ls k : Int) + (dlAt ls k).s := by
  rw [secN_eq H hk, secN_eq H (Nat.le_of_lt hk)]; rfl
theorem secAt_mono (H : okPl sf gs ls) {i : Nat} : ∀ j, i ≤ j → j ≤ ls.length → secAt ls i ≤ secAt ls j
  | 0, h1, _ => by
    obtain rfl : i = 0 := by omega
    exact Int.le_refl _
  | j + 1, h1, h2 => by
    rcases Nat.lt_or_eq_of_le h1 with h3 | rfl
    · have a := secAt_mono H (i := i) j (by omega) (by omega)
      have b := (H.at (k := j) (by omega)).s
      rw [secAt_succ]
      omega
    · exact Int.le_refl _
theorem sec_leg (H : okPl sf gs ls) {k : Nat} (hk : k < ls.length) : (dlAt ls k).s ≤ secAt ls ls.length := by
  have a := secAt_mono H (i := k + 1) ls.length (by omega) (Nat.le_refl _)
  have b := (H.e k (by omega)).1
  rw [secAt_succ] at a
  omega
def kAt (ls : List Dl) (σ : Nat) : Nat := firstB (fun k => decide ((σ : Int) ≤ secAt ls (k + 1))) ls.length
theorem kAt_eq (H : okPl sf gs ls) {k σ : Nat} (hk : k < ls.length) (h0 : secAt ls k < σ ∨ k = 0) (h1 : (σ : Int) ≤ secAt ls (k + 1)) : kAt ls σ = k := by
  obtain ⟨s1, s2⟩ := firstB_spec (fun k => decide ((σ : Int) ≤ secAt ls (k + 1))) ls.length
  have s3 := firstB_le (fun k => decide ((σ : Int) ≤ secAt ls (k + 1))) ls.length
  unfold kAt
  generalize firstB (fun k => decide ((σ : Int) ≤ secAt ls (k + 1))) ls.length = m at *
  rcases Nat.lt_trichotomy m k with h | h | h
  · have a := of_decide_eq_true (s2 (by omega))
    have b := secAt_mono H (i := m + 1) k (by omega) (by omega)
    omega
  · exact h
  · have a := of_decide_eq_false (s1 k h)
    omega
/-! ### Depths, rounded up -/
def dpS (x : Le) (s : Int) : Int := (x.f - x.sf) * (x.x.s - s) + (x.t - x.sf) * s
def dpM (x : Le) (s : Int) : Int := upZ (dpS x s) x.x.s
theorem dpS_in {x : Le} (h : okLe x) {s : Int} (hs : 0 ≤ s ∧ s ≤ x.x.s) : (0 ≤ (x.f - x.sf) * (x.x.s - s) ∧ (x.f - x.sf) * (x.x.s - s) ≤ 30000000000) ∧ (0 ≤ (x.t - x.sf) * s ∧ (x.t - x.sf) * s ≤ 30000000000) ∧ 0 ≤ dpS x s ∧ dpS x s ≤ 30000 * x.x.s := by
  have h1 := h.f; have h2 := h.t; have h3 := h.s
  have a := mulB (a := x.f - x.sf) (b := x.x.s - s) (A := 30000) (B := x.x.s - s) (by omega) (by omega)
  have b := mulB (a := x.t - x.sf) (b := s) (A := 30000) (B := s) (by omega) (by omega)
  unfold dpS
  exact ⟨⟨a.1, by omega⟩, ⟨b.1, by omega⟩, by omega, by omega⟩
theorem dpM_in {x : Le} (h : okLe x) {s : Int} (hs : 0 ≤ s ∧ s ≤ x.x.s) : 0 ≤ dpM x s ∧ dpM x s ≤ 30000 := by
  have a := (dpS_in h hs).2.2
  have h3 := h.s
  unfold dpM upZ
  constructor
  · exact Int.ediv_nonneg (by omega) (by omega)
  · have : (dpS x s + x.x.s - 1) / x.x.s < 30000 + 1 := Int.ediv_lt_of_lt_mul (by omega) (by rw [Int.add_mul]; omega)
    omega

/-! ### Needs -/
def usedAt (sf : Int) (gs : List Gs) (ls : List Dl) (b : Int) (k : Nat) : Int := ((consK gs.length ls (amtS sf gs ls b) k)[(dlAt ls k).g.toNat]?).getD 0
def needA (r : Ru) (sf : Int) (gs : List Gs) (ls : List Dl) (k : Nat) (s : Int) : Int := usedAt sf gs ls r.br k + brM r.br s (legAt sf gs ls k) + escM r sf (dpM (legAt sf gs ls k) s)
def gN (ls : List Dl) (σ : Nat) : Int := (dlAt ls (kAt ls σ)).g
def aN (r : Ru) (sf : Int) (gs : List Gs) (ls : List Dl) (σ : Nat) : Int := needA r sf gs ls (kAt ls σ) ((σ : Int) - secAt ls (kAt ls σ))
theorem used_in (H : okPl sf gs ls) {b : Int} (hb : 1 ≤ b ∧ b ≤ 100000) {k : Nat} (hk : k < ls.length) : 0 ≤ usedAt sf gs ls b k ∧ usedAt sf gs ls b k ≤ 3110000000040 := by
  have hg := (H.at hk).g
  have hll := H.ll
  obtain ⟨v, hv⟩ := get_some (consK gs.length ls (amtS sf gs ls b) k) (k := (dlAt ls k).g.toNat) (by rw [consK_len]; omega)
  have h1 := consK_in (n := gs.length) (ls := ls) (amt := amtS sf gs ls b) (A := 51833333334) (by omega) k (fun i hi => amtS_in H hb (by omega)) _ _ hv
  unfold usedAt
  rw [hv]
  show 0 ≤ v ∧ v ≤ _
  omega
theorem needA_in (H : okPl sf gs ls) {r : Ru} (HR : okRu r) {k : Nat} (hk : k < ls.length) (hs2 : (dlAt ls k).s ≤ 20000) {s : Int} (hs : 0 ≤ s ∧ s ≤ (dlAt ls k).s) :
    (0 ≤ usedAt sf gs ls r.br k ∧ usedAt sf gs ls r.br k ≤ 3110000000040) ∧ (0 ≤ brM r.br s (legAt sf gs ls k) ∧ brM r.br s (legAt sf gs ls k) ≤ 51833333334) ∧ (0 ≤ dpM (legAt sf gs ls k) s ∧ dpM (legAt sf gs ls k) s ≤ 30000) ∧ (0 ≤ escM r sf (dpM (legAt sf gs ls k) s) ∧ escM r sf (dpM (legAt sf gs ls k) s) ≤ 36486000000000000) := by
  have hl := H.le hk
  have hd := dpM_in hl (s := s) hs
  exact ⟨used_in H HR.br hk, brM_in hl HR.br hs (.inr hs2), hd, escM_in HR H.sf hd⟩
theorem need_at (H : okPl sf gs ls) (r : Ru) {k j : Nat} (hk : k < ls.length) (h0 : 1 ≤ j ∨ k = 0) (h1 : (j : Int) ≤ (dlAt ls k).s) :
    gN ls (secN ls k + j) = (dlAt ls k).g ∧ aN r sf gs ls (secN ls k + j) = needA r sf gs ls k j ∧ ((secN ls k + j : Nat) : Int) = secAt ls k + j ∧ secN ls k + j < rnN ls ls.length := by
  have e1 : ((secN ls k + j : Nat) : Int) = secAt ls k + j := by rw [Int.natCast_add, secN_eq H (Nat.le_of_lt hk)]
  have e2 : kAt ls (secN ls k + j) = k := kAt_eq H hk (by rcases h0 with h | h; left; omega; right; exact h) (by rw [secAt_succ]; omega)
  refine ⟨?_, ?_, e1, ?_⟩
  · unfold gN; rw [e2]
  · unfold aN; rw [e2, e1]; congr 1; omega
  · rw [rnN_pos (by omega)]
    have a := secAt_mono H (i := k + 1) ls.length (by omega) (Nat.le_refl _)
    have b := secN_eq H (Nat.le_refl ls.length)
    rw [secAt_succ] at a
    omega
def needE (nm : ByteArray) (sf : Int) (gs : List Gs) (ls : List Dl) (r : Ru) (c : Int) : Int × Int × Int :=
  if bothE nm sf gs ls r ≠ 0 then (0, 0, bothE nm sf gs ls r) else if secAt ls ls.length > 20000 then (0, 0, 8) else if ¬ (0 ≤ c ∧ c ≤ secAt ls ls.length) then (0, 0, 2) else if ls.length = 0 then (0, 0, 12) else (gN ls c.toNat, aN r sf gs ls c.toNat, 0)
variable {nm : ByteArray} {r : Ru} {c : Int}
theorem needE_1 (h : bothE nm sf gs ls r ≠ 0) : needE nm sf gs ls r c = (0, 0, bothE nm sf gs ls r) := if_pos h
theorem needE_2 (h : bothE nm sf gs ls r = 0) (h2 : secAt ls ls.length > 20000) : needE nm sf gs ls r c = (0, 0, 8) := by unfold needE; rw [if_neg (fun hh => hh h), if_pos h2]
theorem needE_3 (h : bothE nm sf gs ls r = 0) (h2 : ¬ secAt ls ls.length > 20000) (h3 : ¬ (0 ≤ c ∧ c ≤ secAt ls ls.length)) : needE nm sf gs ls r c = (0, 0, 2) := by unfold needE; rw [if_neg (fun hh => hh h), if_neg h2, if_pos h3]
theorem needE_4 (h : bothE nm sf gs ls r = 0) (h2 : ¬ secAt ls ls.length > 20000) (h3 : 0 ≤ c ∧ c ≤ secAt ls ls.length) (h4 : ls.length = 0) : needE nm sf gs ls r c = (0, 0, 12) := by unfold needE; rw [if_neg (fun hh => hh h), if_neg h2, if_neg (fun hh => hh h3), if_pos h4]
theorem needE_5 (h : bothE nm sf gs ls r = 0) (h2 : ¬ secAt ls ls.length > 20000) (h3 : 0 ≤ c ∧ c ≤ secAt ls ls.length) (h4 : ¬ ls.length = 0) : needE nm sf gs ls r c = (gN ls c.toNat, aN r sf gs ls c.toNat, 0) := by unfold needE; rw [if_neg (fun hh => hh h), if_neg h2, if_neg (fun hh => hh h3), if_neg h4]

/-! ### What is breathed up to a second -/
variable {b : Int}
end
end Go.Proofs.YtacndicgpkeobaaGreatDoor
namespace Go.Proofs.YtacndicgpkeobaaGreatDoor
def nmD : ByteArray := ⟨#[112]⟩
def gsD : List Gs := [⟨210, 0⟩, ⟨500, 0⟩]
def lsD : List Dl := [⟨60, 1800, 0⟩, ⟨600, 1800, 0⟩, ⟨120, 600, 0⟩, ⟨300, 600, 1⟩]
def ruD : Ru := ⟨[⟨500, 100⟩, ⟨1000, 300⟩], 160, 1400, 3000, 5200, 20000, 40000, 60, 1000⟩
theorem nameD : nameP nmD := by decide
theorem ckPD : ckPl nmD 1013 gsD lsD = (0, 0) := by
  rw [ckPl_7 nameD (by decide) (by decide) (by decide) (by decide) (by decide)]
  rfl
theorem ckRD : ckRu ruD = 0 := by decide
theorem bothD : bothE nmD 1013 gsD lsD ruD = 0 := by
  rw [bothE_2 (by rw [ckPD]), ckRD]
theorem clk_ex : clkE nmD 1013 gsD lsD ruD = ([1441, 60000, 4321, 30000], 0) := by
  rw [clkE_2 bothD]
  decide
theorem cons_ex : consE nmD 1013 gsD lsD 20000 = ([689380, 161300], 0) := by
  rw [consE_3 (by rw [ckPD]) (by decide)]
  decide
theorem need_ex : (needE nmD 1013 gsD lsD ruD 660).2 = (851116, 0) := by
  rw [needE_5 bothD (by decide) (by decide) (by decide)]
  decide
theorem dlo_ex : dLo ⟨210, 0⟩ 1000 ruD = 0 := firstB_eq (notPoor_mono (by decide)) (by decide) (.inl rfl) (.inr (by decide))
theorem dhi_ex : dHi ⟨210, 0⟩ 1000 ruD = 3001 := firstB_eq (isHeavy_mono (by decide)) (by decide) (.inr (by decide)) (.inr (by decide))
theorem dof_ex : dofE ⟨210, 0⟩ 1000 ruD = (⟨0, 3000⟩, 0) := by
  rw [dofE_3 (by decide) (by rw [dlo_ex, dhi_ex]; decide), dlo_ex, dhi_ex]
  rfl
end Go.Proofs.YtacndicgpkeobaaGreatDoor
namespace Go.Proofs.YtacndicgpkeobaaGreatDoor
open Go.RowKit

set_option maxRecDepth 100000 in
theorem ct_exposure_endOf (v : Value) (sf : Int) (gs : List Gs) (ls : List Dl) (H : okPl sf gs ls) : Ct Tryz.prog 151 [v] [(v, 9, (legsM sf gs ls).map cLe)] (isV (.int .i64 (secAt ls ls.length))) := by
 refine Ct.of (N := 13) Tryz.func151 rfl rfl rfl fun w => ?_
 refine C_weak (E' := [(0, v)]) (rs' := [rd v 9 ((legsM sf gs ls).map cLe)]) ⟨rfl, trivial⟩ (fun _ h => h) ?_
 have hlen : ((legsM sf gs ls).map cLe).length = ls.length := le_len _ _ _ _
 have hll := H.ll
 refine C_seq ?_
 refine C_region ?_
 refine Jq (q_assign rfl) ?_
 refine L_then ?_
 refine C_seq ?_
 refine C_seq ?_
 refine C_region ?_
 refine Jq (q_move rfl) ?_
 refine Jq (q_len tb rfl rfl gvo) ?_
 refine Jq (q_eql rfl rfl) ?_
 refine L_then ?_
 refine C_dec rfl (fun h1 => ?_) (fun h1 => ?_)
 refine C_seq ?_
 refine C_region ?_
 refine Jq (q_assign rfl) ?_
 refine L_then ?_
 refine C_ret ?_
 exact ret_of (res1 rfl rfl) sub_nil (by intro r hr; cases hr) ⟨(congrArg (Value.int .i64) (by rw [show ls.length = 0 by omega]; rfl)), rfl⟩
 have hel : ((legsM sf gs ls).map cLe)[ls.length - 1]? = some (cLe (legAt sf gs ls (ls.length - 1))) := le_cell (by omega)
 have e9 := secAt_succ ls (ls.length - 1)
 rw [show ls.length - 1 + 1 = ls.length by omega] at e9
 refine C_skip_then ?_
 refine C_seq ?_
 refine C_region ?_
 refine Jq (q_move rfl) ?_
 refine Jq (q_move rfl) ?_
 refine Jq (q_len tb rfl rfl gvo) ?_
 refine Jq (q_sub rfl rfl (by first | exact IntWalk.i64_in _ (by omega) | rfl)) ?_
 refine Jq (by first | exact q_index tb rfl rfl rfl rfl gvo (by omega) (by first | omega | (simp; done) | (simp; omega)) | exact q_indexP tb rfl rfl rfl rfl (by omega) (by omega)) ?_
 refine Jq (q_loadEA tb rfl rfl gvo (i := ls.length - 1) (o := 0) (by omega) hel rfl rfl) ?_
 refine L_call tb rfl rfl (ct_exposure_leg_end (legAt sf gs ls (ls.length - 1)) (H.le (by omega))) no_ps rfl ?_
 refine Jq (q_assign rfl) ?_
 refine L_then ?_
 refine C_ret ?_
 exact ret_of (res1 rfl rfl) sub_nil (by intro r hr; cases hr) ⟨(congrArg (Value.int .i64) (by exact e9.symm)), rfl⟩
def folE (sf : Int) (gs : List Gs) (ls : List Dl) : List Le × Int := if secAt ls ls.length > 20000 then ([], 8) else (legsM sf gs ls, 0)
theorem folE_1 {sf : Int} {gs : List Gs} {ls : List Dl} (h : secAt ls ls.length > 20000) : folE sf gs ls = ([], 8) := if_pos h
theorem folE_2 {sf : Int} {gs : List Gs} {ls : List Dl} (h : ¬ secAt ls ls.length > 20000) : folE sf gs ls = (legsM sf gs ls, 0) := if_neg h

set_option maxRecDepth 100000 in
theorem ct_exposure_followed (nm : ByteArray) (sf : Int) (v u : Value) (gs : List Gs) (ls : List Dl) (H : okPl sf gs ls) : Ct Tryz.prog 150 [.agg (cPl nm sf v u).toArray] [(v, 2, gs.map cGs), (u, 3, ls.map cDl)] (isSlN 232 9 ((folE sf gs ls).1.map cLe) (.int .i64 (folE sf gs ls).2)) := by
 refine Ct.of (N := 11) Tryz.func150 rfl rfl rfl fun w => ?_
 refine C_weak (E' := [(0, .agg (cPl nm sf v u).toArray)]) (rs' := [rd v 2 (gs.map cGs), rd u 3 (ls.map cDl)]) ⟨rfl, trivial⟩ (fun _ h => h) ?_
 have hl1 := len_map cGs gs
 have hl2 := len_map cDl ls
 refine C_seq ?_
 refine C_region ?_
 refine L_box rfl rfl rfl fun g1 => ?_
 refine Jq (q_assign rfl) ?_
 refine Jq (q_assign rfl) ?_
 refine L_then ?_
 refine C_seq ?_
 refine C_region ?_
 refine Jq (q_loadA tb rfl rfl bxo rfl rfl) ?_
 refine L_callS tb rfl rfl (ct_exposure_legs nm sf v u gs ls H) (ps_cons gvo (ps_cons gvo no_ps)) rfl fun v6 => ?_
 refine Jq (q_assign rfl) ?_
 refine L_then ?_
 refine C_seq ?_
 refine C_seq ?_
 refine C_region ?_
 refine Jq (q_move rfl) ?_
 refine L_call tb rfl rfl (ct_exposure_endOf v6 sf gs ls H) (ps_cons gvo no_ps) rfl ?_
 refine Jq (q_gtr rfl rfl) ?_
 refine L_then ?_
 refine C_dec rfl (fun h1 => ?_) (fun h1 => ?_)
 refine C_seq ?_
 refine C_region ?_
 refine Jq (q_assign rfl) ?_
 refine Jq (q_assign rfl) ?_
 refine L_then ?_
 refine C_ret ?_
 rw [folE_1 h1]
 exact ret_of (rs' := [sl (.slice none 0 0) 232 9 []]) (res2 rfl rfl rfl) (fun w_ h_ => ws_nil (sub_nil w_ h_)) own1 ⟨_, rfl, rfl⟩
 refine C_skip_then ?_
 refine C_seq ?_
 refine C_region ?_
 refine Jq (q_move rfl) ?_
 refine Jq (q_assign rfl) ?_
 refine Jq (q_assign rfl) ?_
 refine L_then ?_
 refine C_ret ?_
 rw [folE_2 h1]
 exact ret_of (rs' := [sl v6 232 9 ((legsM sf gs ls).map cLe)]) (res2 rfl rfl rfl) (fun w_ h_ => h_.pk (by repeat (first | with_reducible exact pk_nil | refine pk_box rfl ?_ | refine pk_rd rfl ?_ | refine pk_sl rfl ?_ | with_reducible refine pk_app ?_ | with_reducible refine pk_app0 ?_ | with_reducible refine pk_app0L ?_ | with_reducible exact pk_tl | refine pk_var ?_))) own1 ⟨_, rfl, rfl⟩
end Go.Proofs.YtacndicgpkeobaaGreatDoor
