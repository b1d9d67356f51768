/- Helper lemmas for the claim's theorem: an abstract machine over the model, proved sound; no condition beyond each lemma's own. -/
import Derived.Test.YtbcapidhhbkkcaaT4
import Derived.Test.YtbcapidhhbkkcaaAmG
set_option linter.unusedVariables false
set_option linter.unusedSimpArgs false
set_option linter.unnecessarySimpa false
set_option linter.unusedSectionVars false
/- Plain laws on the printed functions. -/
namespace Go.Proofs.Ytbcapidhhbkkcaa
open Go Go.AM
set_option maxRecDepth 100000
set_option maxHeartbeats 1000000
set_option linter.unusedVariables false
set_option linter.unusedSimpArgs false
/-- Whether a timer comes ahead of another one. -/
def lessB (a b : api_Timer) : Bool := go_ravelref08_Less a b
theorem lessB_iff (a b : api_Timer) : lessB a b = true ↔ (a.At < b.At ∨ (a.At = b.At ∧ a.Id < b.Id)) := by
  unfold lessB go_ravelref08_Less; simp
theorem less_irrefl (a : api_Timer) : lessB a a = false := by
  rw [← Bool.not_eq_true, lessB_iff]; omega
theorem less_trans {a b c : api_Timer} (h1 : lessB a b = true) (h2 : lessB b c = true) : lessB a c = true := by
  rw [lessB_iff] at *; omega
theorem less_total {a b : api_Timer} (h : a ≠ b) : lessB a b = true ∨ lessB b a = true := by
  rw [lessB_iff, lessB_iff]
  have : a.At ≠ b.At ∨ a.Id ≠ b.Id := by
    by_cases h1 : a.At = b.At
    · right; intro h2; exact h (by cases a; cases b; simp_all)
    · exact .inl h1
  omega
theorem le_trans {a b c : api_Timer} (h1 : lessB b a = false) (h2 : lessB c b = false) : lessB c a = false := by
  rw [← Bool.not_eq_true, lessB_iff] at *; omega
theorem cmp_eq (a b : Int) : go_cmp_Compare_int64 a b = if a < b then -1 else if a > b then 1 else 0 := by
  unfold go_cmp_Compare_int64 go_cmp_isNaN_int64
  simp
theorem order_eq (a b : api_Timer) : go_heap_order a b = some (if lessB a b = true then -1 else if lessB b a = true then 1 else 0) := by
  unfold go_heap_order go_cmp_Or_int
  rw [cmp_eq, cmp_eq]
  have h0 : (0 : Int) = ((0 : Nat) : Int) := rfl
  have key : ∀ x y : Int, whileO (go_cmp_Or_int_s1 [x, y]) 0 = some (if x ≠ 0 then x else y) := by
    intro x y
    by_cases hx : x = 0
    · subst hx
      rw [whileO_inl (s' := 1) (by rw [go_cmp_Or_int_s1, if_pos (by simp), if_pos (by simp)]; rfl)]
      by_cases hy : y = 0
      · subst hy
        rw [whileO_inl (s' := 2) (by rw [go_cmp_Or_int_s1, if_pos (by simp), if_pos (by simp)]; rfl)]
        exact whileO_inr (by rw [go_cmp_Or_int_s1, if_neg (by simp)]; rfl)
      · have hg : gt [0, y] 1 = y := rfl
        refine whileO_inr ?_
        rw [go_cmp_Or_int_s1, if_pos (by simp), if_pos (by simp), hg, if_pos (by simpa using hy)]
        simp
    · have hg : gt [x, y] 0 = x := rfl
      refine whileO_inr ?_
      rw [go_cmp_Or_int_s1, if_pos (by simp), if_pos (by simp), hg, if_pos (by simpa using hx)]
      simp [hx]
  rw [key]
  have h1 := lessB_iff a b
  have h2 := lessB_iff b a
  by_cases e1 : a.At < b.At
  · rw [if_pos (by rw [if_pos e1]; simp), if_pos e1, if_pos (h1.2 (.inl e1))]; rfl
  · by_cases e2 : a.At > b.At
    · rw [if_pos (by rw [if_neg e1, if_pos e2]; simp), if_neg e1, if_pos e2, if_neg (by rw [h1]; omega), if_pos (h2.2 (.inl e2))]; rfl
    · rw [if_neg (by rw [if_neg e1, if_neg e2]; simp)]
      by_cases e3 : a.Id < b.Id
      · rw [if_pos e3, if_pos (h1.2 (.inr ⟨by omega, e3⟩))]; rfl
      · by_cases e4 : a.Id > b.Id
        · rw [if_neg e3, if_pos e4, if_neg (show ¬ lessB a b = true by rw [h1]; omega), if_pos (h2.2 (.inr ⟨by omega, e4⟩))]; rfl
        · rw [if_neg e3, if_neg e4, if_neg (show ¬ lessB a b = true by rw [h1]; omega), if_neg (show ¬ lessB b a = true by rw [h2]; omega)]; rfl
/-- Two places changed for one another. -/
def swp (h : List api_Timer) (i j : Int) : List api_Timer := st (st h i (gt h j)) j (gt h i)
theorem par_eq {i : Int} (h0 : 0 < i) (h : i ≤ 1000000) : IntKind.i64.wrap (Int.tdiv (IntKind.i64.wrap (i - 1)) 4) = (i - 1) / 4 := by
  rw [w64_id (n := i - 1) (by omega) (by omega), Int.tdiv_eq_ediv_of_nonneg (by omega), w64_id (by omega) (by omega)]
theorem gt_swp {h : List api_Timer} {i j : Int} (hi : 0 ≤ i ∧ i < h.length) (hj : 0 ≤ j ∧ j < h.length) (k : Int) (hk : 0 ≤ k) : gt (swp h i j) k = if k = j then gt h i else if k = i then gt h j else gt h k := by
  have key : ∀ (m : List api_Timer) (a : Int) (x : api_Timer), 0 ≤ a → a < m.length → gt (st m a x) k = if k = a then x else gt m k := by
    intro m a x h0 h1
    by_cases e : k = a
    · subst e
      simp [gt, st, List.getD, List.getElem?_set, show k.toNat < m.length by omega]
    · have : a.toNat ≠ k.toNat := by omega
      simp [gt, st, List.getD, List.getElem?_set, this, e]
  unfold swp
  rw [key _ j _ hj.1 (by unfold st; rw [List.length_set]; exact hj.2), key _ i _ hi.1 hi.2]
theorem swp_len (h : List api_Timer) (i j : Int) : (swp h i j).length = h.length := by unfold swp st; rw [List.length_set, List.length_set]
/-- A timer that may come ahead of the one above it; else all is in order. -/
structure HB (h : List api_Timer) (i : Int) : Prop where
  ord : ∀ k : Int, 0 < k → k < h.length → k ≠ i → lessB (gt h k) (gt h ((k - 1) / 4)) = false
  kid : 0 < i → ∀ k : Int, 0 < k → k < h.length → (k - 1) / 4 = i → lessB (gt h k) (gt h ((i - 1) / 4)) = false
/-- In order. -/
def Hp (h : List api_Timer) : Prop := ∀ k : Int, 0 < k → k < h.length → lessB (gt h k) (gt h ((k - 1) / 4)) = false
theorem HB.done {h : List api_Timer} {i : Int} (hb : HB h i) (hi : 0 < i → i < h.length → lessB (gt h i) (gt h ((i - 1) / 4)) = false) : Hp h := fun k h0 h1 => by
  by_cases e : k = i
  · subst e; exact hi h0 h1
  · exact hb.ord k h0 h1 e
theorem HB.rise {h : List api_Timer} {i : Int} (hb : HB h i) (hi : 0 < i ∧ i < h.length) (hl : lessB (gt h i) (gt h ((i - 1) / 4)) = true) : HB (swp h ((i - 1) / 4) i) ((i - 1) / 4) := by
  have hp : 0 ≤ (i - 1) / 4 ∧ (i - 1) / 4 < h.length := by omega
  have hli : lessB (gt h ((i - 1) / 4)) (gt h i) = false := by
    rw [← Bool.not_eq_true]; intro hh
    have := less_trans hl hh
    rw [less_irrefl] at this; cases this
  refine ⟨fun k h0 h1 hne => ?_, fun hq k h0 h1 hk => ?_⟩
  · rw [swp_len] at h1
    rw [gt_swp hp ⟨by omega, hi.2⟩ k (by omega), gt_swp hp ⟨by omega, hi.2⟩ ((k - 1) / 4) (by omega)]
    by_cases e1 : k = i
    · subst e1
      rw [if_pos rfl, if_neg (by omega), if_pos rfl]; exact hli
    · rw [if_neg e1, if_neg hne]
      by_cases e2 : (k - 1) / 4 = i
      · rw [if_pos e2]
        exact hb.kid hi.1 k h0 h1 e2
      · rw [if_neg e2]
        by_cases e3 : (k - 1) / 4 = (i - 1) / 4
        · rw [if_pos e3]
          have := hb.ord k h0 h1 e1
          rw [e3] at this
          rw [← Bool.not_eq_true]; intro hh
          have h3 := less_trans hh hl
          rw [this] at h3; cases h3
        · rw [if_neg e3]; exact hb.ord k h0 h1 e1
  · rw [swp_len] at h1
    rw [gt_swp hp ⟨by omega, hi.2⟩ k (by omega), gt_swp hp ⟨by omega, hi.2⟩ (((i - 1) / 4 - 1) / 4) (by omega), if_neg (show ¬ ((i - 1) / 4 - 1) / 4 = i by omega), if_neg (show ¬ ((i - 1) / 4 - 1) / 4 = (i - 1) / 4 by omega)]
    have hpp := hb.ord ((i - 1) / 4) hq hp.2 (by omega)
    by_cases e1 : k = i
    · rw [if_pos e1]; exact hpp
    · rw [if_neg e1, if_neg (show ¬ k = (i - 1) / 4 by omega)]
      have := hb.ord k h0 h1 e1
      rw [hk] at this
      exact le_trans hpp this
theorem swp_perm {h : List api_Timer} {i j : Int} (hi : 0 ≤ i ∧ i < h.length) (hj : 0 ≤ j ∧ j < h.length) : (swp h i j).Perm h := by
  obtain ⟨a, rfl⟩ : ∃ a : Nat, i = (a : Int) := ⟨i.toNat, by omega⟩
  obtain ⟨b, rfl⟩ : ∃ b : Nat, j = (b : Int) := ⟨j.toNat, by omega⟩
  have ha : a < h.length := by omega
  have hb : b < h.length := by omega
  unfold swp st
  rw [gt_nat ha, gt_nat hb, Int.toNat_natCast, Int.toNat_natCast]
  exact List.set_set_perm ha hb
/-- Rising. -/
theorem up_ok : ∀ (n : Nat) (h : List api_Timer) (i : Int), HB h i → 0 ≤ i ∧ i < h.length → h.length ≤ 1000 → i ≤ n → ∃ h', whileO go_heap_Add_s1 (h, i) = some (h', 0) ∧ h'.Perm h ∧ Hp h'
  | n, h, i, hb, hi, hl, hn => by
    by_cases h0 : i > 0
    · have hp : 0 ≤ (i - 1) / 4 ∧ (i - 1) / 4 < h.length := by omega
      cases hle : lessB (gt h i) (gt h ((i - 1) / 4)) with
      | false =>
        refine ⟨h, ?_, .refl _, hb.done fun _ _ => hle⟩
        refine whileO_inr ?_
        have hx : decide ((if lessB (gt h ((i - 1) / 4)) (gt h i) = true then (-1 : Int) else if lessB (gt h i) (gt h ((i - 1) / 4)) = true then 1 else 0) ≤ 0) = true := by
          rw [hle]; split <;> decide
        rw [go_heap_Add_s1, if_pos (by simpa using h0), par_eq (by omega) (by omega), if_pos hp, if_pos hi, order_eq, Option.bind_some, if_pos hx]; rfl
      | true =>
        have hgt : lessB (gt h ((i - 1) / 4)) (gt h i) = false := by
          rw [← Bool.not_eq_true]; intro hh
          have := less_trans hle hh
          rw [less_irrefl] at this; cases this
        cases n with
        | zero => omega
        | succ n =>
          obtain ⟨h', u1, u2, u3⟩ := up_ok n (swp h ((i - 1) / 4) i) ((i - 1) / 4) (hb.rise ⟨h0, hi.2⟩ hle) (by rw [swp_len]; exact hp) (by rw [swp_len]; exact hl) (by omega)
          refine ⟨h', ?_, u2.trans (swp_perm hp hi), u3⟩
          rw [← u1]
          refine whileO_inl ?_
          rw [go_heap_Add_s1, if_pos (by simpa using h0), par_eq (by omega) (by omega), if_pos hp, if_pos hi, order_eq, Option.bind_some, hgt, hle, if_neg (by decide), if_pos hi, if_pos hp, if_pos hp, if_pos (by unfold st; rw [List.length_set]; exact hi)]
          rfl
    · refine ⟨h, ?_, .refl _, hb.done fun h1 => absurd h1 h0⟩
      refine whileO_inr ?_
      rw [go_heap_Add_s1, if_neg (by simpa using h0)]; rfl
/-- A timer that sinks: it began at i, it is at v. -/
structure HS (h : List api_Timer) (i v : Int) : Prop where
  le : 0 ≤ i ∧ i ≤ v
  a : ∀ k : Int, 0 < k → k < h.length → k ≠ i → (k - 1) / 4 ≠ v → lessB (gt h k) (gt h ((k - 1) / 4)) = false
  b : 0 < v → ∀ k : Int, 0 < k → k < h.length → (k - 1) / 4 = v → lessB (gt h k) (gt h ((v - 1) / 4)) = false
  c : v ≠ i → 0 < i → lessB (gt h i) (gt h ((i - 1) / 4)) = false
theorem HS.stop {h : List api_Timer} {i v : Int} (hs : HS h i v) (hv : v < h.length) (hk : ∀ k : Int, 0 < k → k < h.length → (k - 1) / 4 = v → lessB (gt h k) (gt h v) = false) : HB h i := by
  have hle := hs.le
  have hord : ∀ k : Int, 0 < k → k < h.length → k ≠ i → lessB (gt h k) (gt h ((k - 1) / 4)) = false := fun k h0 h1 hne => by
    by_cases e : (k - 1) / 4 = v
    · rw [e]; exact hk k h0 h1 e
    · exact hs.a k h0 h1 hne e
  refine ⟨hord, fun hi k h0 h1 e => ?_⟩
  by_cases e2 : v = i
  · subst e2; exact hs.b hi k h0 h1 e
  · have h2 := hord k h0 h1 (by omega)
    rw [e] at h2
    exact le_trans (hs.c e2 hi) h2
theorem HS.sink {h : List api_Timer} {i v m : Int} (hs : HS h i v) (hv : v < h.length) (hm : 0 < m ∧ m < h.length) (hmv : (m - 1) / 4 = v) (hl : lessB (gt h m) (gt h v) = true) (hk : ∀ k : Int, 0 < k → k < h.length → (k - 1) / 4 = v → lessB (gt h k) (gt h m) = false) : HS (swp h m v) i m := by
  have hle := hs.le
  have hvm : lessB (gt h v) (gt h m) = false := by
    rw [← Bool.not_eq_true]; intro hh
    have := less_trans hl hh
    rw [less_irrefl] at this; cases this
  have hm0 : 0 ≤ m ∧ m < h.length := ⟨by omega, hm.2⟩
  have hv0 : 0 ≤ v ∧ v < h.length := ⟨by omega, hv⟩
  refine ⟨⟨hle.1, by omega⟩, fun k h0 h1 hne hp => ?_, fun _ k h0 h1 hp => ?_, fun _ hi => ?_⟩
  · rw [swp_len] at h1
    rw [gt_swp hm0 hv0 k (by omega), gt_swp hm0 hv0 ((k - 1) / 4) (by omega)]
    by_cases e1 : (k - 1) / 4 = v
    · rw [if_pos e1, if_neg (show ¬ k = v by omega)]
      by_cases e2 : k = m
      · rw [if_pos e2]; exact hvm
      · rw [if_neg e2]; exact hk k h0 h1 e1
    · rw [if_neg e1, if_neg hp]
      by_cases e2 : k = v
      · rw [if_pos e2, e2]
        exact hs.b (by omega) m hm.1 hm.2 hmv
      · rw [if_neg e2, if_neg (show ¬ k = m from fun e => e1 (by rw [e]; exact hmv))]
        exact hs.a k h0 h1 hne e1
  · rw [swp_len] at h1
    rw [gt_swp hm0 hv0 k (by omega), gt_swp hm0 hv0 ((m - 1) / 4) (by omega), hmv, if_pos rfl, if_neg (show ¬ k = v by omega), if_neg (show ¬ k = m by omega)]
    have := hs.a k h0 h1 (by omega) (by omega)
    rwa [hp] at this
  · rw [gt_swp hm0 hv0 i (by omega), gt_swp hm0 hv0 ((i - 1) / 4) (by omega), if_neg (show ¬ (i - 1) / 4 = v by omega), if_neg (show ¬ (i - 1) / 4 = m by omega), if_neg (show ¬ i = m by omega)]
    by_cases e : i = v
    · rw [if_pos e, e]
      exact hs.b (by omega) m hm.1 hm.2 hmv
    · rw [if_neg e]
      exact hs.c (fun e2 => e e2.symm) hi
theorem least_ok {h : List api_Timer} {x v : Int} (hv : 0 ≤ v ∧ v < h.length) (hl : h.length ≤ 1000) : ∀ (n : Nat) (c m : Int), c + n = 4 * v + 5 → 4 * v + 1 ≤ c → (m = v ∨ (4 * v + 1 ≤ m ∧ m < c ∧ m < h.length ∧ lessB (gt h m) (gt h v) = true)) → (∀ k : Int, 4 * v + 1 ≤ k → k < c → k < h.length → lessB (gt h k) (gt h m) = false) →
    ∃ m' : Int, (m' = v ∨ (4 * v + 1 ≤ m' ∧ m' < 4 * v + 5 ∧ m' < h.length ∧ lessB (gt h m') (gt h v) = true)) ∧ (∀ k : Int, 4 * v + 1 ≤ k → k < 4 * v + 5 → k < h.length → lessB (gt h k) (gt h m') = false) ∧
      whileO (go_heap_Cancel_s7 x h v) (m, c) = if m' = v then inrO (whileO go_heap_Cancel_s8 (h, x)) else nextO (swp h m' v, m')
  | n, c, m, hc, hc1, hm, hk => by
    have hend : (¬ (c ≤ 4 * v + 4 ∧ c < h.length)) → whileO (go_heap_Cancel_s7 x h v) (m, c) = if m = v then inrO (whileO go_heap_Cancel_s8 (h, x)) else nextO (swp h m v, m) := fun hn => by
      have hst : go_heap_Cancel_s7 x h v (m, c) = inrO (if m = v then inrO (whileO go_heap_Cancel_s8 (h, x)) else nextO (swp h m v, m)) := by
        rw [go_heap_Cancel_s7, w64_id (n := 4 * v) (by omega) (by omega), w64_id (n := 4 * v + 4) (by omega) (by omega), if_neg (by simp; omega)]
        by_cases e : m = v
        · rw [if_pos (by simp [e]), if_pos e]
        · rw [if_neg (by simp [e]), if_neg e, if_pos hv, if_pos (by omega), if_pos (by omega), if_pos (by unfold st; rw [List.length_set]; exact hv)]; rfl
      by_cases e : m = v
      · rw [if_pos e] at hst ⊢
        cases hw : whileO go_heap_Cancel_s8 (h, x) with
        | none => rw [hw] at hst; exact whileO_none hst
        | some r => rw [hw] at hst; exact whileO_inr hst
      · rw [if_neg e] at hst ⊢
        exact whileO_inr hst
    by_cases hg : c ≤ 4 * v + 4 ∧ c < h.length
    · cases n with
      | zero => omega
      | succ n =>
        have hm0 : 0 ≤ m ∧ m < h.length := by omega
        have hlt : decide ((if lessB (gt h c) (gt h m) = true then (-1 : Int) else if lessB (gt h m) (gt h c) = true then 1 else 0) < 0) = lessB (gt h c) (gt h m) := by
          cases lessB (gt h c) (gt h m) with
          | true => rfl
          | false => simp; split <;> decide
        cases hcm : lessB (gt h c) (gt h m) with
        | true =>
          have hcv : lessB (gt h c) (gt h v) = true := by
            rcases hm with rfl | ⟨_, _, _, h4⟩
            · exact hcm
            · exact less_trans hcm h4
          obtain ⟨m', g1, g2, g3⟩ := least_ok (x := x) hv hl n (c + 1) c (by omega) (by omega) (.inr ⟨hc1, by omega, hg.2, hcv⟩) (fun k k1 k2 k3 => by
            by_cases e : k = c
            · subst e; exact less_irrefl _
            · have := hk k k1 (by omega) k3
              rw [← Bool.not_eq_true]; intro hh
              have h3 := less_trans hh hcm
              rw [this] at h3; cases h3)
          refine ⟨m', g1, g2, ?_⟩
          rw [← g3]
          refine whileO_inl ?_
          rw [go_heap_Cancel_s7, w64_id (n := 4 * v) (by omega) (by omega), w64_id (n := 4 * v + 4) (by omega) (by omega), if_pos (by simp; omega), if_pos (by omega), if_pos hm0, order_eq, Option.bind_some, hlt, hcm, if_pos rfl, w64_id (n := c + 1) (by omega) (by omega)]; rfl
        | false =>
          obtain ⟨m', g1, g2, g3⟩ := least_ok (x := x) hv hl n (c + 1) m (by omega) (by omega) (hm.imp id fun ⟨a, b, d, e⟩ => ⟨a, by omega, d, e⟩) (fun k k1 k2 k3 => by
            by_cases e : k = c
            · subst e; exact hcm
            · exact hk k k1 (by omega) k3)
          refine ⟨m', g1, g2, ?_⟩
          rw [← g3]
          refine whileO_inl ?_
          rw [go_heap_Cancel_s7, w64_id (n := 4 * v) (by omega) (by omega), w64_id (n := 4 * v + 4) (by omega) (by omega), if_pos (by simp; omega), if_pos (by omega), if_pos hm0, order_eq, Option.bind_some, hlt, hcm, if_neg (by simp), w64_id (n := c + 1) (by omega) (by omega)]; rfl
    · exact ⟨m, hm.imp id fun ⟨a, b, d, e⟩ => ⟨a, by omega, d, e⟩, fun k k1 k2 k3 => hk k k1 (by omega) k3, hend hg⟩
theorem up8_ok (h : List api_Timer) (i : Int) (hb : HB h i) (hi : 0 ≤ i ∧ i < h.length) (hl : h.length ≤ 1000) : ∃ h', whileO go_heap_Cancel_s8 (h, i) = some (h', 0) ∧ h'.Perm h ∧ Hp h' := by
  have e : go_heap_Cancel_s8 = go_heap_Add_s1 := rfl
  rw [e]
  exact up_ok i.toNat h i hb hi hl (by omega)
theorem down_ok {i : Int} : ∀ (n : Nat) (h : List api_Timer) (v : Int), HS h i v → v < h.length → h.length ≤ 1000 → h.length ≤ n + v → ∃ h', whileO (go_heap_Cancel_s5 i) (h, v) = some (h', 0) ∧ h'.Perm h ∧ Hp h'
  | n, h, v, hs, hv, hl, hn => by
    have hle := hs.le
    have hv0 : 0 ≤ v ∧ v < h.length := by omega
    obtain ⟨m, g1, g2, g3⟩ := least_ok (x := i) hv0 hl 4 (4 * v + 1) v (by omega) (by omega) (.inl rfl) (fun k k1 k2 => by omega)
    have hst : go_heap_Cancel_s5 i (h, v) = if m = v then inrO (whileO go_heap_Cancel_s8 (h, i)) else nextO (swp h m v, m) := by
      rw [← g3, go_heap_Cancel_s5, w64_id (n := 4 * v) (by omega) (by omega), w64_id (n := 4 * v + 1) (by omega) (by omega)]
    have hkid : ∀ k : Int, 0 < k → k < h.length → (k - 1) / 4 = v → lessB (gt h k) (gt h m) = false := fun k k0 k1 k2 => g2 k (by omega) (by omega) k1
    by_cases e : m = v
    · rw [if_pos e] at hst
      subst e
      obtain ⟨h', e1, e2, e3⟩ := up8_ok h i (hs.stop hv hkid) (by omega) hl
      rw [e1] at hst
      exact ⟨h', whileO_inr hst, e2, e3⟩
    · rw [if_neg e] at hst
      obtain ⟨m1, m2, m3, m4⟩ := g1.resolve_left e
      cases n with
      | zero => omega
      | succ n =>
        have hs' := hs.sink hv ⟨by omega, m3⟩ (by omega) m4 hkid
        have hlen := swp_len h m v
        obtain ⟨h', e1, e2, e3⟩ := down_ok n (swp h m v) m hs' (by omega) (by omega) (by omega)
        exact ⟨h', (whileO_inl hst).trans e1, e2.trans (swp_perm (by omega) hv0), e3⟩
theorem few_ok {n : Nat} (h : n ≤ 100000) : few n := by unfold few; omega
theorem with3_ok {xs : List api_Timer} {t : api_Timer} (hl : xs.length ≤ 1000) : ∀ (n k : Nat) (acc : List api_Timer), k + n = xs.length → acc.length ≤ 2000 + k → whileO (go_ravelref08_with_s3 xs t) (acc, (k : Int)) = some (acc ++ (xs.drop k).filter fun u => lessB t u)
  | 0, k, acc, hk, ha => by
    rw [List.drop_eq_nil_of_le (by omega)]
    refine whileO_inr ?_
    rw [go_ravelref08_with_s3, if_neg (by simp; omega), List.filter_nil, List.append_nil]; rfl
  | n + 1, k, acc, hk, ha => by
    have hi : k < xs.length := by omega
    rw [List.drop_eq_getElem_cons hi]
    cases e : lessB t xs[k] with
    | true =>
      rw [List.filter_cons_of_pos (by simpa using e)]
      have := with3_ok (t := t) hl n (k + 1) (acc ++ [xs[k]]) (by omega) (by rw [List.length_append, List.length_singleton]; omega)
      rw [List.append_assoc, List.singleton_append] at this
      rw [← this]
      refine whileO_inl ?_
      have e2 : go_ravelref08_Less t xs[k] = true := e
      rw [go_ravelref08_with_s3, if_pos (by simp; omega), if_pos (by omega), gt_nat hi, if_pos e2, if_pos (few_ok (by rw [List.length_append, List.length_singleton]; omega)), w64_nat (by omega)]; rfl
    | false =>
      rw [List.filter_cons_of_neg (by simp [e])]
      rw [← with3_ok hl n (k + 1) acc (by omega) (by omega)]
      refine whileO_inl ?_
      have e2 : ¬ go_ravelref08_Less t xs[k] = true := by rw [show go_ravelref08_Less t xs[k] = false from e]; simp
      rw [go_ravelref08_with_s3, if_pos (by simp; omega), if_pos (by omega), gt_nat hi, if_neg e2, w64_nat (by omega)]; rfl
/-- A timer put into its place. -/
def wth (xs : List api_Timer) (t : api_Timer) : List api_Timer := (xs.filter fun u => !(lessB t u)) ++ t :: xs.filter fun u => lessB t u
theorem with2_ok {xs : List api_Timer} {t : api_Timer} (hl : xs.length ≤ 1000) : ∀ (n k : Nat) (acc : List api_Timer), k + n = xs.length → acc.length ≤ k → whileO (go_ravelref08_with_s2 xs t) (acc, (k : Int)) = some ((acc ++ (xs.drop k).filter fun u => !(lessB t u)) ++ t :: xs.filter fun u => lessB t u)
  | 0, k, acc, hk, ha => by
    rw [List.drop_eq_nil_of_le (by omega)]
    refine whileO_inr ?_
    have h3 := with3_ok (t := t) hl xs.length 0 (acc ++ [t]) (by omega) (by rw [List.length_append, List.length_singleton]; omega)
    rw [go_ravelref08_with_s2, if_neg (by simp; omega), if_pos (few_ok (by rw [List.length_append, List.length_singleton]; omega)), List.filter_nil, List.append_nil]
    rw [List.drop_zero, List.append_assoc, List.singleton_append] at h3
    exact congrArg inrO h3
  | n + 1, k, acc, hk, ha => by
    have hi : k < xs.length := by omega
    rw [List.drop_eq_getElem_cons hi]
    cases e : lessB t xs[k] with
    | false =>
      rw [List.filter_cons_of_pos (by simp [e])]
      have := with2_ok (t := t) hl n (k + 1) (acc ++ [xs[k]]) (by omega) (by rw [List.length_append, List.length_singleton]; omega)
      rw [List.append_assoc acc, List.singleton_append] at this
      rw [← this]
      refine whileO_inl ?_
      have e2 : (!(go_ravelref08_Less t xs[k])) = true := by rw [show go_ravelref08_Less t xs[k] = false from e]; rfl
      rw [go_ravelref08_with_s2, if_pos (by simp; omega), if_pos (by omega), gt_nat hi, if_pos e2, if_pos (few_ok (by rw [List.length_append, List.length_singleton]; omega)), w64_nat (by omega)]; rfl
    | true =>
      rw [List.filter_cons_of_neg (by simp [e])]
      rw [← with2_ok (t := t) hl n (k + 1) acc (by omega) (by omega)]
      refine whileO_inl ?_
      have e2 : ¬ (!(go_ravelref08_Less t xs[k])) = true := by rw [show go_ravelref08_Less t xs[k] = true from e]; simp
      rw [go_ravelref08_with_s2, if_pos (by simp; omega), if_pos (by omega), gt_nat hi, if_neg e2, w64_nat (by omega)]; rfl
theorem with_ok {xs : List api_Timer} (t : api_Timer) (hl : xs.length ≤ 1000) : go_ravelref08_with xs t = some (wth xs t) := by
  have := with2_ok (t := t) hl xs.length 0 [] (by omega) (Nat.le_refl 0)
  rw [List.drop_zero, List.nil_append] at this
  exact this
theorem wth_perm (xs : List api_Timer) (t : api_Timer) : (wth xs t).Perm (t :: xs) := by
  unfold wth
  refine List.perm_middle.trans (.cons t ?_)
  have := List.filter_append_perm (fun u => !(lessB t u)) xs
  simpa using this
/-- In order, each ahead of the next. -/
def Srt (xs : List api_Timer) : Prop := xs.Pairwise fun a b => lessB b a = false
theorem wth_srt {xs : List api_Timer} (t : api_Timer) (h : Srt xs) : Srt (wth xs t) := by
  unfold wth Srt
  rw [List.pairwise_append, List.pairwise_cons]
  refine ⟨List.Pairwise.filter _ h, ⟨fun u hu => ?_, List.Pairwise.filter _ h⟩, fun a ha b hb => ?_⟩
  · rw [List.mem_filter] at hu
    rw [← Bool.not_eq_true]; intro hh
    have := less_trans hu.2 hh
    rw [less_irrefl] at this; cases this
  · rw [List.mem_filter] at ha
    have h1 : lessB t a = false := by simpa using ha.2
    rcases List.mem_cons.1 hb with rfl | hb
    · exact h1
    · rw [List.mem_filter] at hb
      rw [← Bool.not_eq_true]; intro hh
      have := less_trans hb.2 hh
      rw [h1] at this; cases this
/-- One list alone is in order. -/
theorem srt_one {xs ys : List api_Timer} (hx : Srt xs) (hy : Srt ys) (hp : xs.Perm ys) : xs = ys :=
  List.Perm.eq_of_pairwise (le := fun a b => lessB b a = false) (fun a b _ _ h1 h2 => by
    by_cases e : a = b
    · exact e
    · rcases less_total e with h | h
      · rw [h2] at h; cases h
      · rw [h1] at h; cases h) hx hy hp
theorem ord_ok {xs : List api_Timer} (hl : xs.length ≤ 900) : ∀ (n k : Nat) (acc : List api_Timer), k + n = xs.length → acc.Perm (xs.take k) → Srt acc → ∃ ys, whileO (go_ravelref08_Order_s1 xs) (acc, (k : Int)) = some ys ∧ ys.Perm xs ∧ Srt ys
  | 0, k, acc, hk, ha, hs => by
    rw [List.take_of_length_le (by omega)] at ha
    refine ⟨acc, whileO_inr ?_, ha, hs⟩
    rw [go_ravelref08_Order_s1, if_neg (by simp; omega)]; rfl
  | n + 1, k, acc, hk, ha, hs => by
    have hi : k < xs.length := by omega
    have hal : acc.length ≤ 1000 := by rw [ha.length_eq, List.length_take]; omega
    obtain ⟨ys, e1, e2, e3⟩ := ord_ok hl n (k + 1) (wth acc xs[k]) (by omega) (by
      rw [List.take_succ_eq_append_getElem hi]
      exact (wth_perm acc xs[k]).trans ((List.Perm.cons _ ha).trans (List.perm_append_singleton _ _).symm)) (wth_srt _ hs)
    refine ⟨ys, ?_, e2, e3⟩
    rw [← e1]
    refine whileO_inl ?_
    rw [go_ravelref08_Order_s1, if_pos (by simp; omega), if_pos (by omega), gt_nat hi, with_ok _ hal, Option.bind_some, w64_nat (by omega)]; rfl
/-- The order of a list. -/
theorem order_ok {xs : List api_Timer} (hl : xs.length ≤ 900) : ∃ ys, go_ravelref08_Order xs = some ys ∧ ys.Perm xs ∧ Srt ys :=
  ord_ok hl xs.length 0 [] (by omega) (by rw [List.take_zero]) List.Pairwise.nil
theorem order_is {xs ys : List api_Timer} (hl : xs.length ≤ 900) (hp : ys.Perm xs) (hs : Srt ys) : go_ravelref08_Order xs = some ys := by
  obtain ⟨zs, e1, e2, e3⟩ := order_ok hl
  rw [e1, srt_one e3 hs (e2.trans hp.symm)]
/-- The place of an id. -/
theorem at_ok {xs : List api_Timer} (id : Int) (hl : xs.length ≤ 900) : ∀ (n k : Nat), k + n = xs.length → (∀ j (h : j < xs.length), j < k → xs[j].Id ≠ id) →
    (∃ i : Nat, ∃ h : i < xs.length, xs[i].Id = id ∧ (∀ j (h : j < xs.length), j < i → xs[j].Id ≠ id) ∧ whileO (go_ravelref08_at_s1 xs id) (k : Int) = some (i : Int) ∧ whileO (go_heap_find_s1 xs id) (k : Int) = some (xs, (i : Int), 0)) ∨
    ((∀ j (h : j < xs.length), xs[j].Id ≠ id) ∧ whileO (go_ravelref08_at_s1 xs id) (k : Int) = some (-1) ∧ whileO (go_heap_find_s1 xs id) (k : Int) = some ([], 0, 5))
  | 0, k, hk, ha => by
    refine .inr ⟨fun j h => ha j h (by omega), whileO_inr ?_, whileO_inr ?_⟩
    · rw [go_ravelref08_at_s1, if_neg (by simp; omega)]; rfl
    · rw [go_heap_find_s1, if_neg (by simp; omega)]; rfl
  | n + 1, k, hk, ha => by
    have hi : k < xs.length := by omega
    by_cases e : xs[k].Id = id
    · refine .inl ⟨k, hi, e, fun j h hj => ha j h hj, whileO_inr ?_, whileO_inr ?_⟩
      · rw [go_ravelref08_at_s1, if_pos (by simp; omega), if_pos (by omega), gt_nat hi, if_pos (by simp [e])]; rfl
      · rw [go_heap_find_s1, if_pos (by simp; omega), if_pos (by omega), gt_nat hi, if_pos (by simp [e]), if_neg (by simp), go_slices_Clone_api_Timer_api_Timer, if_pos (few_ok (by omega))]; rfl
    · have h1 : go_ravelref08_at_s1 xs id (k : Int) = nextO ((k + 1 : Nat) : Int) := by
        rw [go_ravelref08_at_s1, if_pos (by simp; omega), if_pos (by omega), gt_nat hi, if_neg (by simp [e]), w64_nat (by omega)]
      have h2 : go_heap_find_s1 xs id (k : Int) = nextO ((k + 1 : Nat) : Int) := by
        rw [go_heap_find_s1, if_pos (by simp; omega), if_pos (by omega), gt_nat hi, if_neg (by simp [e]), w64_nat (by omega)]
      rw [whileO_inl h1, whileO_inl h2]
      exact at_ok id hl n (k + 1) (by omega) (fun j h hj => by
        by_cases e2 : j = k
        · subst e2; exact e
        · exact ha j h (by omega))
/-- What the check wants at a place. -/
structure Ok (xs : List api_Timer) (k : Nat) : Prop where
  may : go_ravelref08_may (gt xs (k : Int)) = true
  ord : 0 < k → lessB (gt xs (k : Int)) (gt xs (((k : Int) - 1) / 4)) = false
  one : ∀ j : Nat, j < k → (gt xs (j : Int)).Id ≠ (gt xs (k : Int)).Id
/-- What the check wants. -/
def Fine (xs : List api_Timer) : Prop := xs.length ≤ 256 ∧ ∀ k : Nat, k < xs.length → Ok xs k
theorem sub_nat {xs : List api_Timer} (k : Nat) : sub xs 0 (k : Int) = xs.take k := by simp [sub]
theorem s5_ok {xs : List api_Timer} {k : Nat} (hk : k < xs.length) (hl : xs.length ≤ 256) : ∀ (n i : Nat), i + n = k → (∀ j : Nat, j < i → (gt xs (j : Int)).Id ≠ (gt xs (k : Int)).Id) →
    ((∀ j : Nat, j < k → (gt xs (j : Int)).Id ≠ (gt xs (k : Int)).Id) ∧ whileO (go_ravelref08_Check_s5 xs (k : Int)) (i : Int) = nextO ((k + 1 : Nat) : Int)) ∨
    ((¬ ∀ j : Nat, j < k → (gt xs (j : Int)).Id ≠ (gt xs (k : Int)).Id) ∧ whileO (go_ravelref08_Check_s5 xs (k : Int)) (i : Int) = inrO (some 1))
  | 0, i, hi, ha => by
    refine .inl ⟨fun j h => ha j (by omega), whileO_inr ?_⟩
    rw [go_ravelref08_Check_s5, sub_nat, if_neg (by simp; omega), w64_nat (by omega)]; rfl
  | n + 1, i, hi, ha => by
    have hlt : (xs.take k).length = k := by rw [List.length_take]; omega
    have hg : gt (xs.take k) (i : Int) = gt xs (i : Int) := by
      rw [gt_nat (show i < (xs.take k).length by omega), gt_nat (show i < xs.length by omega), List.getElem_take]
    by_cases e : (gt xs (i : Int)).Id = (gt xs (k : Int)).Id
    · refine .inr ⟨fun h => h i (by omega) e, whileO_inr ?_⟩
      rw [go_ravelref08_Check_s5, sub_nat, if_pos (by simp; omega), if_pos (by omega), hg, if_pos (by simp [e])]; rfl
    · have h1 : go_ravelref08_Check_s5 xs (k : Int) (i : Int) = nextO ((i + 1 : Nat) : Int) := by
        rw [go_ravelref08_Check_s5, sub_nat, if_pos (by simp; omega), if_pos (by omega), hg, if_neg (by simp [e]), w64_nat (by omega)]
      rw [whileO_inl h1]
      exact s5_ok hk hl n (i + 1) (by omega) (fun j h => by
        by_cases e2 : j = i
        · subst e2; exact e
        · exact ha j (by omega))
theorem mget_mput (m : List (Int × Bool)) (a b : Int) (v : Bool) : mget (mput m a v) b = if b = a then some v else mget m b := by
  induction m with
  | nil => simp [mput, mget]
  | cons p r ih =>
    obtain ⟨x, u⟩ := p
    by_cases e : a = x
    · subst e
      rw [mput, if_pos rfl, mget, mget]
      by_cases e2 : b = a
      · rw [if_pos e2, if_pos e2]
      · rw [if_neg e2, if_neg e2, if_neg e2]
    · rw [mput, if_neg e, mget, mget, ih]
      by_cases e2 : b = x
      · rw [if_pos e2, if_pos e2, if_neg (by omega)]
      · rw [if_neg e2, if_neg e2]
theorem less_cmp {a b : api_Timer} : decide ((if lessB a b = true then (-1 : Int) else if lessB b a = true then 1 else 0) < 0) = lessB a b := by
  cases lessB a b with
  | true => rfl
  | false => simp; split <;> decide
theorem chk_ok {xs : List api_Timer} (hl : xs.length ≤ 256) : ∀ (n k : Nat) (m : List (Int × Bool)), k + n = xs.length → (∀ j : Nat, j < k → Ok xs j) → (∀ id : Int, (mget m id).getD false = true ↔ ∃ j : Nat, j < k ∧ (gt xs (j : Int)).Id = id) →
    ((∀ j : Nat, j < xs.length → Ok xs j) ∧ whileO (go_ravelref08_Check_s4 xs) (k : Int) = some 0 ∧ whileO (go_heap_Check_s1 xs) ((k : Int), m) = some 0) ∨
    ((¬ ∀ j : Nat, j < xs.length → Ok xs j) ∧ whileO (go_ravelref08_Check_s4 xs) (k : Int) = some 1 ∧ whileO (go_heap_Check_s1 xs) ((k : Int), m) = some 1)
  | 0, k, m, hk, ha, hm => by
    refine .inl ⟨fun j h => ha j (by omega), whileO_inr ?_, whileO_inr ?_⟩
    · rw [go_ravelref08_Check_s4, if_neg (by simp; omega)]; rfl
    · rw [go_heap_Check_s1, if_neg (by simp; omega)]; rfl
  | n + 1, k, m, hk, ha, hm => by
    have hi : k < xs.length := by omega
    have hb : 0 ≤ (k : Int) ∧ (k : Int) < xs.length := by omega
    have hc : (decide ((k : Int) < (xs.length : Int))) = true := by simp; omega
    by_cases hmay : ¬ go_ravelref08_may (gt xs (k : Int)) = true
    · have hmay2 : ¬ go_heap_may (gt xs (k : Int)) = true := hmay
      refine .inr ⟨fun h => hmay (h k hi).may, whileO_inr ?_, whileO_inr ?_⟩
      · rw [go_ravelref08_Check_s4, if_pos hc, if_pos hb, if_pos (by simp [hmay])]; rfl
      · rw [go_heap_Check_s1, if_pos hc, if_pos hb, if_pos (by simp [hmay2])]; rfl
    replace hmay := Classical.not_not.1 hmay
    have hmay2 : go_heap_may (gt xs (k : Int)) = true := hmay
    have hs5 := s5_ok hi hl k 0 (by omega) (fun j h => by omega)
    have hs6 : go_ravelref08_Check_s6 xs (k : Int) = go_ravelref08_Check_s5 xs (k : Int) := rfl
    have hw : IntKind.i64.wrap ((k : Int) + 1) = ((k + 1 : Nat) : Int) := w64_nat (by omega)
    -- the ids
    have hid : ((mget m ((gt xs (k : Int)).Id)).getD false = true) ↔ ¬ ∀ j : Nat, j < k → (gt xs (j : Int)).Id ≠ (gt xs (k : Int)).Id := by
      rw [hm]
      constructor
      · rintro ⟨j, h1, h2⟩ h; exact h j h1 h2
      · intro h
        apply Classical.byContradiction
        intro h2
        exact h fun j h3 h4 => h2 ⟨j, h3, h4⟩
    have go : Ok xs k → go_ravelref08_Check_s4 xs (k : Int) = nextO ((k + 1 : Nat) : Int) → go_heap_Check_s1 xs ((k : Int), m) = nextO (((k + 1 : Nat) : Int), mput m ((gt xs (k : Int)).Id) true) → _ := fun hok h1 h2 => by
      have := chk_ok hl n (k + 1) (mput m ((gt xs (k : Int)).Id) true) (by omega) (fun j h => by
        by_cases e : j = k
        · subst e; exact hok
        · exact ha j (by omega)) (fun id => by
        rw [mget_mput]
        by_cases e : id = (gt xs (k : Int)).Id
        · rw [if_pos e]
          exact ⟨fun _ => ⟨k, by omega, e.symm⟩, fun _ => rfl⟩
        · rw [if_neg e, hm]
          constructor
          · rintro ⟨j, h8, h9⟩; exact ⟨j, by omega, h9⟩
          · rintro ⟨j, h8, h9⟩
            refine ⟨j, ?_, h9⟩
            by_cases e2 : j = k
            · rw [e2] at h9; exact absurd h9.symm e
            · omega)
      rw [← whileO_inl h1, ← whileO_inl h2] at this
      exact this
    by_cases h0 : 0 < k
    · have hp : IntKind.i64.wrap (Int.tdiv (IntKind.i64.wrap ((k : Int) - 1)) 4) = ((k : Int) - 1) / 4 := par_eq (by omega) (by omega)
      have hpb : 0 ≤ ((k : Int) - 1) / 4 ∧ ((k : Int) - 1) / 4 < xs.length := by omega
      cases hle : lessB (gt xs (k : Int)) (gt xs (((k : Int) - 1) / 4)) with
      | true =>
        have hle2 : go_ravelref08_Less (gt xs (k : Int)) (gt xs (((k : Int) - 1) / 4)) = true := hle
        have hno : ¬ ∀ j : Nat, j < xs.length → Ok xs j := fun h => by
          have := (h k hi).ord h0
          rw [hle] at this; cases this
        refine .inr ⟨hno, whileO_inr ?_, whileO_inr ?_⟩
        · rw [go_ravelref08_Check_s4, if_pos hc, if_pos hb, if_neg (by simp [hmay]), if_pos (by simp; omega), hp, if_pos hpb, if_pos hle2]; rfl
        · rw [go_heap_Check_s1, if_pos hc, if_pos hb, if_neg (by simp [hmay2])]
          by_cases e : (mget m ((gt xs (k : Int)).Id)).getD false = true
          · rw [if_pos e]; rfl
          · rw [if_neg e, if_pos (by simp; omega), hp, if_pos hpb, order_eq, Option.bind_some, less_cmp, if_pos hle]; rfl
      | false =>
        have hle2 : ¬ go_ravelref08_Less (gt xs (k : Int)) (gt xs (((k : Int) - 1) / 4)) = true := by rw [show go_ravelref08_Less (gt xs (k : Int)) (gt xs (((k : Int) - 1) / 4)) = false from hle]; simp
        have e1 : go_ravelref08_Check_s4 xs (k : Int) = whileO (go_ravelref08_Check_s5 xs (k : Int)) 0 := by
          rw [go_ravelref08_Check_s4, if_pos hc, if_pos hb, if_neg (by simp [hmay]), if_pos (by simp; omega), hp, if_pos hpb, if_neg hle2, if_pos (by omega)]
        rcases hs5 with ⟨hu, h5⟩ | ⟨hu, h5⟩
        · refine go ⟨hmay, fun _ => hle, hu⟩ (e1.trans h5) ?_
          rw [go_heap_Check_s1, if_pos hc, if_pos hb, if_neg (by simp [hmay2]), if_neg (fun h => hid.1 h hu), if_pos (by simp; omega), hp, if_pos hpb, order_eq, Option.bind_some, less_cmp, if_neg (by simp [hle]), hw]
        · refine .inr ⟨fun h => hu (h k hi).one, whileO_inr (e1.trans h5), whileO_inr ?_⟩
          rw [go_heap_Check_s1, if_pos hc, if_pos hb, if_neg (by simp [hmay2]), if_pos (hid.2 hu)]; rfl
    · have e1 : go_ravelref08_Check_s4 xs (k : Int) = whileO (go_ravelref08_Check_s5 xs (k : Int)) 0 := by
        rw [go_ravelref08_Check_s4, if_pos hc, if_pos hb, if_neg (by simp [hmay]), if_neg (by simp; omega), if_pos (by omega), hs6]
      rcases hs5 with ⟨hu, h5⟩ | ⟨hu, h5⟩
      · refine go ⟨hmay, fun h => absurd h h0, hu⟩ (e1.trans h5) ?_
        rw [go_heap_Check_s1, if_pos hc, if_pos hb, if_neg (by simp [hmay2]), if_neg (fun h => hid.1 h hu), if_neg (by simp; omega), hw]
      · exact absurd (fun j h => by omega) hu
theorem check_ok (xs : List api_Timer) : (Fine xs ∧ go_ravelref08_Check xs = some 0 ∧ go_heap_Check xs = some 0) ∨ (¬ Fine xs ∧ go_ravelref08_Check xs = some 1 ∧ go_heap_Check xs = some 1) := by
  by_cases hl : xs.length ≤ 256
  · have hn : ¬ (decide ((xs.length : Int) > 256)) = true := by simp; omega
    have := chk_ok hl xs.length 0 [] (by omega) (fun j h => by omega) (fun id => ⟨fun h => by simp [mget] at h, fun ⟨j, h, _⟩ => by omega⟩)
    rcases this with ⟨a, b, c⟩ | ⟨a, b, c⟩
    · exact .inl ⟨⟨hl, a⟩, by rw [go_ravelref08_Check, if_neg hn]; exact b, by rw [go_heap_Check, if_neg hn]; exact c⟩
    · exact .inr ⟨fun h => a h.2, by rw [go_ravelref08_Check, if_neg hn]; exact b, by rw [go_heap_Check, if_neg hn]; exact c⟩
  · have hn : (decide ((xs.length : Int) > 256)) = true := by simp; omega
    exact .inr ⟨fun h => hl h.1, by rw [go_ravelref08_Check, if_pos hn], by rw [go_heap_Check, if_pos hn]⟩
theorem fine_iff (xs : List api_Timer) : Fine xs ↔ xs.length ≤ 256 ∧ (∀ t ∈ xs, go_ravelref08_may t = true) ∧ (xs.map fun t => t.Id).Nodup ∧ Hp xs := by
  constructor
  · rintro ⟨hl, h⟩
    refine ⟨hl, fun t ht => ?_, ?_, fun k h0 h1 => ?_⟩
    · obtain ⟨k, hk, rfl⟩ := List.getElem_of_mem ht
      have := (h k hk).may
      rwa [gt_nat hk] at this
    · rw [List.Nodup, List.pairwise_map, List.pairwise_iff_getElem]
      intro i j hi hj hij
      have := (h j hj).one i hij
      rwa [gt_nat hi, gt_nat hj] at this
    · obtain ⟨m, rfl⟩ : ∃ m : Nat, k = (m : Int) := ⟨k.toNat, by omega⟩
      exact (h m (by omega)).ord (by omega)
  · rintro ⟨hl, h1, h2, h3⟩
    refine ⟨hl, fun k hk => ⟨?_, fun h0 => h3 k (by omega) (by omega), fun j hj => ?_⟩⟩
    · rw [gt_nat hk]; exact h1 _ (List.getElem_mem hk)
    · rw [List.Nodup, List.pairwise_map, List.pairwise_iff_getElem] at h2
      rw [gt_nat hk, gt_nat (show j < xs.length by omega)]
      exact h2 j k (by omega) hk hj
theorem beq_self (t : api_Timer) : api_Timer.beq t t = true := by simp [api_Timer.beq]
theorem samel_go {xs : List api_Timer} (hl : xs.length ≤ 900) : ∀ (n k : Nat), k + n = xs.length → whileO (go_ravelref08_SameList_s1 xs xs) (k : Int) = some true
  | 0, k, hk => by
    refine whileO_inr ?_
    rw [go_ravelref08_SameList_s1, if_neg (by simp; omega)]; rfl
  | n + 1, k, hk => by
    rw [← samel_go hl n (k + 1) (by omega)]
    refine whileO_inl ?_
    rw [go_ravelref08_SameList_s1, if_pos (by simp; omega), if_pos (by omega), if_pos (by omega), if_neg (by rw [beq_self]; simp), w64_nat (by omega)]; rfl
theorem samel_ok {xs : List api_Timer} (hl : xs.length ≤ 900) : go_ravelref08_SameList xs xs = some true := by
  rw [go_ravelref08_SameList, if_neg (by simp)]
  exact samel_go hl xs.length 0 (by omega)
theorem fits_ok {h ys : List api_Timer} (hf : Fine h) (hp : ys.Perm h) (hs : Srt ys) : go_ravellaw08_fits h 0 ys 0 = some true := by
  have hl := hf.1
  have hl2 : ys.length ≤ 256 := by rw [hp.length_eq]; exact hl
  have hc : go_ravelref08_Check h = some 0 := by
    rcases check_ok h with ⟨_, a, _⟩ | ⟨a, _⟩
    · exact a
    · exact absurd hf a
  rw [go_ravellaw08_fits, if_neg (by simp), hc, Option.bind_some, if_pos (by simp), go_ravelref08_Same, order_is (by omega) hp hs, Option.bind_some, order_is (by omega) (.refl ys) hs, Option.bind_some, samel_ok (by omega)]
  rfl
theorem fits_no {ys : List api_Timer} {c : Int} (hc : c ≠ 0) : go_ravellaw08_fits [] c ys c = some true := by
  rw [go_ravellaw08_fits, if_pos (by simp [hc])]; simp
theorem few_all {n : Nat} (h : n ≤ 1000) : few n := few_ok (by omega)
/-- Looking up, both ways. -/
theorem find_ok {xs : List api_Timer} (id : Int) (hl : xs.length ≤ 900) (hf : Fine xs) :
    (∃ i : Nat, ∃ h : i < xs.length, xs[i].Id = id ∧ go_ravelref08_at xs id = some (i : Int) ∧ go_heap_find xs id = some (xs, (i : Int), 0)) ∨
    ((∀ j (h : j < xs.length), xs[j].Id ≠ id) ∧ go_ravelref08_at xs id = some (-1) ∧ go_heap_find xs id = some ([], 0, 5)) := by
  have hc : go_heap_Check xs = some 0 := by
    rcases check_ok xs with ⟨_, _, a⟩ | ⟨a, _⟩
    · exact a
    · exact absurd hf a
  have e : go_heap_find xs id = whileO (go_heap_find_s1 xs id) 0 := by
    rw [go_heap_find, hc, Option.bind_some, if_neg (by simp)]
  rw [e]
  rcases at_ok id hl xs.length 0 (by omega) (fun j h h2 => by omega) with ⟨i, h1, h2, h3, h4, h5⟩ | ⟨h1, h2, h3⟩
  · exact .inl ⟨i, h1, h2, h4, h5⟩
  · exact .inr ⟨h1, h2, h3⟩
/-- Both answer, and their answers fit. -/
def Both (a b : Option (List api_Timer × Int)) : Prop := ∃ h ys c, a = some (h, c) ∧ b = some (ys, c) ∧ go_ravellaw08_fits h c ys c = some true ∧ h.length ≤ 256
theorem Both.no {a b : Option (List api_Timer × Int)} {c : Int} (hc : c ≠ 0) (ha : a = some ([], c)) (hb : b = some ([], c)) : Both a b := ⟨[], [], c, ha, hb, fits_no hc, by simp⟩
theorem gt_app {xs ys : List api_Timer} {k : Int} (h0 : 0 ≤ k) (h1 : k < xs.length) : gt (xs ++ ys) k = gt xs k := by
  obtain ⟨m, rfl⟩ : ∃ m : Nat, k = (m : Int) := ⟨k.toNat, by omega⟩
  have hm : m < xs.length := by omega
  rw [gt_nat hm, gt_nat (show m < (xs ++ ys).length by rw [List.length_append]; omega), List.getElem_append_left hm]
theorem HB.last {xs : List api_Timer} (t : api_Timer) (h : Hp xs) : HB (xs ++ [t]) (xs.length : Int) := by
  refine ⟨fun k h0 h1 hne => ?_, fun hi k h0 h1 e => ?_⟩
  · rw [List.length_append, List.length_singleton] at h1
    have h2 : k < xs.length := by omega
    rw [gt_app (by omega) h2, gt_app (by omega) (by omega)]
    exact h k h0 h2
  · rw [List.length_append, List.length_singleton] at h1
    omega
theorem HS.at {xs h : List api_Timer} {i : Int} (hi : 0 ≤ i) (hp : Hp xs) (hl : h.length ≤ xs.length) (hg : ∀ k : Int, 0 ≤ k → k < h.length → k ≠ i → gt h k = gt xs k) : HS h i i := by
  refine ⟨⟨hi, by omega⟩, fun k h0 h1 h2 h3 => ?_, fun hv k h0 h1 e => ?_, fun hn => absurd rfl hn⟩
  · rw [hg k (by omega) h1 h2, hg _ (by omega) (by omega) h3]
    exact hp k h0 (by omega)
  · rw [hg k (by omega) h1 (by omega), hg _ (by omega) (by omega) (by omega)]
    have a1 := hp k h0 (by omega)
    rw [e] at a1
    exact le_trans (hp i hv (by omega)) a1
theorem can1_ok {ys : List api_Timer} {id : Int} (hl : ys.length ≤ 900) : ∀ (n k : Nat) (acc : List api_Timer), k + n = ys.length → acc.length ≤ k → whileO (go_ravelref08_Cancel_s1 id ys) (acc, (k : Int)) = some (acc ++ (ys.drop k).filter (fun u => u.Id != id), 0)
  | 0, k, acc, hk, ha => by
    rw [List.drop_eq_nil_of_le (by omega)]
    refine whileO_inr ?_
    rw [go_ravelref08_Cancel_s1, if_neg (by simp; omega), List.filter_nil, List.append_nil]; rfl
  | n + 1, k, acc, hk, ha => by
    have hi : k < ys.length := by omega
    rw [List.drop_eq_getElem_cons hi]
    cases e : (ys[k].Id != id) with
    | true =>
      rw [List.filter_cons_of_pos (by simpa using e)]
      have := can1_ok (id := id) hl n (k + 1) (acc ++ [ys[k]]) (by omega) (by rw [List.length_append, List.length_singleton]; omega)
      rw [List.append_assoc, List.singleton_append] at this
      rw [← this]
      refine whileO_inl ?_
      rw [go_ravelref08_Cancel_s1, if_pos (by simp; omega), if_pos (by omega), gt_nat hi, if_pos e, if_pos (few_ok (by rw [List.length_append, List.length_singleton]; omega)), w64_nat (by omega)]; rfl
    | false =>
      rw [List.filter_cons_of_neg (by simp [e])]
      rw [← can1_ok (id := id) hl n (k + 1) acc (by omega) (by omega)]
      refine whileO_inl ?_
      rw [go_ravelref08_Cancel_s1, if_pos (by simp; omega), if_pos (by omega), gt_nat hi, if_neg (by rw [e]; simp), w64_nat (by omega)]; rfl
theorem era_perm {xs : List api_Timer} {i : Nat} (hi : i < xs.length) : (xs[i] :: xs.eraseIdx i).Perm xs := by
  rw [List.eraseIdx_eq_take_drop_succ]
  refine List.perm_middle.symm.trans ?_
  rw [← List.drop_eq_getElem_cons hi, List.take_append_drop]
theorem set_perm {xs : List api_Timer} {i : Nat} (hi : i < xs.length) (t : api_Timer) : (xs.set i t).Perm (t :: xs.eraseIdx i) := by
  rw [List.eraseIdx_eq_take_drop_succ, List.set_eq_take_append_cons_drop, if_pos hi]
  exact List.perm_middle
/-- The list without one place: the reference's cancelling. -/
theorem rcan_ok {xs : List api_Timer} (hf : Fine xs) {i : Nat} (hi : i < xs.length) (ha : go_ravelref08_at xs xs[i].Id = some (i : Int)) : ∃ ys, go_ravelref08_Cancel xs xs[i].Id = some (ys, 0) ∧ ys.Perm (xs.eraseIdx i) ∧ Srt ys ∧ (∀ t ∈ xs.eraseIdx i, t.Id ≠ xs[i].Id ∧ go_ravelref08_may t = true) ∧ ((xs.eraseIdx i).map fun t => t.Id).Nodup := by
  obtain ⟨g1, g2, g3, g4⟩ := (fine_iff xs).1 hf
  have hc : go_ravelref08_Check xs = some 0 := by
    rcases check_ok xs with ⟨_, a, _⟩ | ⟨a, _⟩
    · exact a
    · exact absurd hf a
  have hp : (xs[i] :: xs.eraseIdx i).Perm xs := era_perm hi
  have hn : ((xs[i] :: xs.eraseIdx i).map fun t => t.Id).Nodup := ((hp.map fun t => t.Id).nodup_iff).2 g3
  rw [List.map_cons, List.nodup_cons] at hn
  have hne : ∀ t ∈ xs.eraseIdx i, t.Id ≠ xs[i].Id := fun t ht e => hn.1 (List.mem_map.2 ⟨t, ht, e⟩)
  obtain ⟨zs, o1, o2, o3⟩ := order_ok (xs := xs) (by omega)
  have hz := can1_ok (id := xs[i].Id) (ys := zs) (by rw [o2.length_eq]; omega) zs.length 0 [] (by omega) (Nat.le_refl 0)
  rw [List.drop_zero, List.nil_append] at hz
  refine ⟨zs.filter fun u => u.Id != xs[i].Id, ?_, ?_, List.Pairwise.filter _ o3, fun t ht => ⟨hne t ht, g2 t (hp.mem_iff.1 (List.mem_cons_of_mem _ ht))⟩, hn.2⟩
  · rw [go_ravelref08_Cancel, hc, Option.bind_some, if_neg (by simp), ha, Option.bind_some, if_neg (by simp), o1, Option.bind_some]
    exact hz
  · have h1 := (o2.trans hp.symm).filter (fun u => u.Id != xs[i].Id)
    have h2 : (xs.eraseIdx i).filter (fun u => u.Id != xs[i].Id) = xs.eraseIdx i := List.filter_eq_self.2 (fun t ht => by simpa using hne t ht)
    rw [List.filter_cons_of_neg (by simp), h2] at h1
    exact h1
theorem can_ok (xs : List api_Timer) (id : Int) : Both (go_heap_Cancel xs id) (go_ravelref08_Cancel xs id) := by
  rcases check_ok xs with ⟨hf, c1, c2⟩ | ⟨hf, c1, c2⟩
  rotate_left
  · have hfd : go_heap_find xs id = some ([], 0, 1) := by rw [go_heap_find, c2, Option.bind_some, if_pos (by decide)]
    refine .no (c := 1) (by decide) ?_ ?_
    · rw [go_heap_Cancel, hfd, Option.bind_some]; rfl
    · rw [go_ravelref08_Cancel, c1, Option.bind_some, if_pos (by decide)]
  have hl := hf.1
  rcases find_ok id (by omega) hf with ⟨i, hi, rfl, f1, f2⟩ | ⟨hno, f1, f2⟩
  rotate_left
  · refine .no (c := 5) (by decide) ?_ ?_
    · rw [go_heap_Cancel, f2, Option.bind_some]; rfl
    · rw [go_ravelref08_Cancel, c1, Option.bind_some, if_neg (by decide), f1, Option.bind_some, if_pos (by decide)]
  obtain ⟨g1, g2, g3, g4⟩ := (fine_iff xs).1 hf
  obtain ⟨ys, r1, r2, r3, r4, r5⟩ := rcan_ok hf hi f1
  obtain ⟨m, hm⟩ : ∃ m : Nat, xs.length = m + 1 := ⟨xs.length - 1, by omega⟩
  have hm2 : m < xs.length := by omega
  have hlast : IntKind.i64.wrap ((xs.length : Int) - 1) = (m : Int) := by rw [w64_id (by omega) (by omega)]; omega
  have hst : st xs (i : Int) (gt xs (m : Int)) = xs.set i xs[m] := by rw [gt_nat hm2]; simp [st]
  have hsl : (xs.set i xs[m]).length = m + 1 := by rw [List.length_set, hm]
  have h0l : ((xs.set i xs[m]).take m).length = m := by rw [List.length_take, hsl]; omega
  have hperm : ((xs.set i xs[m]).take m).Perm (xs.eraseIdx i) := by
    have e1 : (xs.set i xs[m])[m]'(by omega) = xs[m] := by
      rw [List.getElem_set]; split
      · rfl
      · rfl
    have e2 : (xs.set i xs[m]) = (xs.set i xs[m]).take m ++ [xs[m]] := by
      have := List.take_append_drop m (xs.set i xs[m])
      rw [List.drop_eq_getElem_cons (by omega), e1, List.drop_eq_nil_of_le (by omega)] at this
      exact this.symm
    have h1 := set_perm hi xs[m]
    rw [e2] at h1
    exact (((List.perm_append_singleton _ _).symm.trans h1)).cons_inv
  have hg : ∀ k : Int, 0 ≤ k → k < ((xs.set i xs[m]).take m).length → k ≠ i → gt ((xs.set i xs[m]).take m) k = gt xs k := fun k k0 k1 k2 => by
    obtain ⟨a, rfl⟩ : ∃ a : Nat, k = (a : Int) := ⟨k.toNat, by omega⟩
    rw [gt_nat (show a < ((xs.set i xs[m]).take m).length by omega), gt_nat (show a < xs.length by omega), List.getElem_take, List.getElem_set_ne (by omega)]
  have fin : ∀ h' : List api_Timer, h'.Perm (xs.eraseIdx i) → Hp h' → go_heap_Cancel xs xs[i].Id = some (h', 0) → Both (go_heap_Cancel xs xs[i].Id) (go_ravelref08_Cancel xs xs[i].Id) := fun h' p1 p2 p3 => by
    have hel : h'.length ≤ 256 := by rw [p1.length_eq, List.length_eraseIdx]; split <;> omega
    exact ⟨h', ys, 0, p3, r1, fits_ok ((fine_iff h').2 ⟨hel, fun u hu => (r4 u (p1.mem_iff.1 hu)).2, ((p1.map fun t => t.Id).nodup_iff).2 r5, p2⟩) (r2.trans p1.symm) r3, hel⟩
  have hcan : go_heap_Cancel xs xs[i].Id = if (decide ((i : Int) < (m : Int))) = true then whileO (go_heap_Cancel_s5 (i : Int)) ((xs.set i xs[m]).take m, (i : Int)) else some ((xs.set i xs[m]).take m, 0) := by
    rw [go_heap_Cancel, f2, Option.bind_some]
    show (if ((0 : Int) != 0) = true then _ else _) = _
    rw [if_neg (by decide), hlast, if_pos (by omega), if_pos (by omega), hst, if_pos (by omega), sub_nat]
  by_cases hlt : i < m
  · obtain ⟨h', d1, d2, d3⟩ := down_ok (i := (i : Int)) ((xs.set i xs[m]).take m).length ((xs.set i xs[m]).take m) (i : Int) (.at (xs := xs) (by omega) g4 (by omega) hg) (by omega) (by omega) (by omega)
    exact fin h' (d2.trans hperm) d3 (by rw [hcan, if_pos (by simp; omega)]; exact d1)
  · refine fin _ hperm (fun k k0 k1 => ?_) (by rw [hcan, if_neg (by simp; omega)])
    rw [hg k (by omega) k1 (by omega), hg _ (by omega) (by omega) (by omega)]
    exact g4 k k0 (by omega)
theorem res_ok (xs : List api_Timer) (id w : Int) : Both (go_heap_Reset xs id w) (go_ravelref08_Reset xs id w) := by
  rcases check_ok xs with ⟨hf, c1, c2⟩ | ⟨hf, c1, c2⟩
  rotate_left
  · have hfd : go_heap_find xs id = some ([], 0, 1) := by rw [go_heap_find, c2, Option.bind_some, if_pos (by decide)]
    refine .no (c := 1) (by decide) ?_ ?_
    · rw [go_heap_Reset, hfd, Option.bind_some]; rfl
    · rw [go_ravelref08_Reset, c1, Option.bind_some, if_pos (by simp)]
  have hl := hf.1
  by_cases hw : (decide (w < 0) || decide (w > 1125899906842624)) = true
  · refine .no (c := 1) (by decide) ?_ ?_
    · rcases find_ok id (by omega) hf with ⟨i, hi, _, f1, f2⟩ | ⟨hno, f1, f2⟩
      · rw [go_heap_Reset, f2, Option.bind_some]
        show (if ((((0 : Int) == 1) || decide (w < 0)) || decide (w > 1125899906842624)) = true then _ else _) = _
        rw [if_pos (by rw [Bool.or_assoc, hw, Bool.or_true])]
      · rw [go_heap_Reset, f2, Option.bind_some]
        show (if ((((5 : Int) == 1) || decide (w < 0)) || decide (w > 1125899906842624)) = true then _ else _) = _
        rw [if_pos (by rw [Bool.or_assoc, hw, Bool.or_true])]
    · rw [go_ravelref08_Reset, c1, Option.bind_some, if_pos (by rw [Bool.or_assoc, hw, Bool.or_true])]
  have hwm : 0 ≤ w ∧ w ≤ 1125899906842624 := by simp at hw; omega
  rcases find_ok id (by omega) hf with ⟨i, hi, rfl, f1, f2⟩ | ⟨hno, f1, f2⟩
  rotate_left
  · refine .no (c := 5) (by decide) ?_ ?_
    · rw [go_heap_Reset, f2, Option.bind_some]
      show (if ((((5 : Int) == 1) || decide (w < 0)) || decide (w > 1125899906842624)) = true then _ else _) = _
      rw [if_neg (by rw [Bool.or_assoc, Bool.eq_false_iff.2 hw]; decide)]; rfl
    · rw [go_ravelref08_Reset, c1, Option.bind_some, if_neg (by rw [Bool.or_assoc, Bool.eq_false_iff.2 hw]; decide), go_ravelref08_Cancel, c1, Option.bind_some, if_neg (by decide), f1, Option.bind_some, if_pos (by decide)]; rfl
  obtain ⟨g1, g2, g3, g4⟩ := (fine_iff xs).1 hf
  obtain ⟨ys, r1, r2, r3, r4, r5⟩ := rcan_ok hf hi f1
  have hst : st xs (i : Int) (api_Timer.mk w (gt xs (i : Int)).Id) = xs.set i (api_Timer.mk w xs[i].Id) := by rw [gt_nat hi]; simp [st]
  have hsl : (xs.set i (api_Timer.mk w xs[i].Id)).length = xs.length := by rw [List.length_set]
  have hg : ∀ k : Int, 0 ≤ k → k < (xs.set i (api_Timer.mk w xs[i].Id)).length → k ≠ i → gt (xs.set i (api_Timer.mk w xs[i].Id)) k = gt xs k := fun k k0 k1 k2 => by
    obtain ⟨a, rfl⟩ : ∃ a : Nat, k = (a : Int) := ⟨k.toNat, by omega⟩
    rw [gt_nat (show a < (xs.set i (api_Timer.mk w xs[i].Id)).length by omega), gt_nat (show a < xs.length by omega), List.getElem_set_ne (by omega)]
  have hrs : go_heap_Reset_s5 = go_heap_Cancel_s5 := rfl
  obtain ⟨h', d1, d2, d3⟩ := down_ok (i := (i : Int)) xs.length (xs.set i (api_Timer.mk w xs[i].Id)) (i : Int) (.at (xs := xs) (by omega) g4 (by omega) hg) (by omega) (by omega) (by omega)
  have hp : h'.Perm (api_Timer.mk w xs[i].Id :: xs.eraseIdx i) := d2.trans (set_perm hi _)
  have hel : h'.length ≤ 256 := by rw [d2.length_eq, hsl]; exact hl
  have hyl : ys.length ≤ 1000 := by rw [r2.length_eq, List.length_eraseIdx]; split <;> omega
  have hid0 : 0 ≤ xs[i].Id := by
    have := g2 _ (List.getElem_mem hi)
    unfold go_ravelref08_may at this
    simp at this; omega
  refine ⟨h', wth ys (api_Timer.mk w xs[i].Id), 0, ?_, ?_, fits_ok ((fine_iff h').2 ⟨hel, fun u hu => ?_, ((hp.map fun t => t.Id).nodup_iff).2 ?_, d3⟩) ((wth_perm _ _).trans ((List.Perm.cons _ r2).trans hp.symm)) (wth_srt _ r3), hel⟩
  · rw [go_heap_Reset, f2, Option.bind_some]
    show (if ((((0 : Int) == 1) || decide (w < 0)) || decide (w > 1125899906842624)) = true then _ else _) = _
    rw [if_neg (by rw [Bool.or_assoc, Bool.eq_false_iff.2 hw]; decide)]
    show (if ((0 : Int) != 0) = true then _ else _) = _
    rw [if_neg (by decide), if_pos (by omega), hst, hrs]
    exact d1
  · rw [go_ravelref08_Reset, c1, Option.bind_some, if_neg (by rw [Bool.or_assoc, Bool.eq_false_iff.2 hw]; decide), r1, Option.bind_some]
    show (if ((0 : Int) != 0) = true then _ else _) = _
    rw [if_neg (by decide), with_ok _ hyl]; rfl
  · rcases List.mem_cons.1 (hp.mem_iff.1 hu) with rfl | hu
    · unfold go_ravelref08_may; simp; omega
    · exact (r4 u hu).2
  · rw [List.map_cons, List.nodup_cons]
    refine ⟨fun hin => ?_, r5⟩
    obtain ⟨u, hu, e⟩ := List.mem_map.1 hin
    exact (r4 u hu).1 e
theorem add_yes {xs : List api_Timer} {t : api_Timer} (hf : Fine xs) (hm : go_ravelref08_may t = true) (hno : ∀ j (h : j < xs.length), xs[j].Id ≠ t.Id) (h255 : xs.length ≤ 255) : ∃ h', go_heap_Add xs t = some (h', 0) ∧ h'.Perm (t :: xs) ∧ Fine h' := by
  have c2 : go_heap_Check xs = some 0 := by
    rcases check_ok xs with ⟨_, _, a⟩ | ⟨a, _⟩
    · exact a
    · exact absurd hf a
  have hm2 : go_heap_may t = true := hm
  have h256 : ¬ ((xs.length : Int) == 256) = true := by simp; omega
  have f2 : go_heap_find xs t.Id = some ([], 0, 5) := by
    rcases find_ok t.Id (by omega) hf with ⟨i, hi, e, _⟩ | ⟨_, _, f2⟩
    · exact absurd e (hno i hi)
    · exact f2
  obtain ⟨g1, g2, g3, g4⟩ := (fine_iff xs).1 hf
  have hlen : (xs ++ [t]).length = xs.length + 1 := by rw [List.length_append, List.length_singleton]
  obtain ⟨h', u1, u2, u3⟩ := up_ok xs.length (xs ++ [t]) (xs.length : Int) (.last t g4) (by omega) (by omega) (by omega)
  have hpt : h'.Perm (t :: xs) := u2.trans (List.perm_append_singleton _ _)
  refine ⟨h', ?_, hpt, (fine_iff h').2 ⟨?_, ?_, ?_, u3⟩⟩
  · rw [go_heap_Add, c2, Option.bind_some, if_neg (by simp [hm2]), f2, Option.bind_some]
    show (if ((5 : Int) == 0) = true then _ else _) = _
    rw [if_neg (by decide), if_neg h256, go_slices_Clone_api_Timer_api_Timer, if_pos (few_ok (by omega)), Option.bind_some, if_pos (few_ok (by omega)), hlen, w64_id (by omega) (by omega), ← u1, show ((xs.length + 1 : Nat) : Int) - 1 = (xs.length : Int) by omega]
  · rw [hpt.length_eq, List.length_cons]; omega
  · intro u hu
    rcases List.mem_cons.1 (hpt.mem_iff.1 hu) with rfl | hu
    · exact hm
    · exact g2 u hu
  · refine ((hpt.map fun t => t.Id).nodup_iff).2 ?_
    rw [List.map_cons, List.nodup_cons]
    refine ⟨fun hin => ?_, g3⟩
    obtain ⟨u, hu, e⟩ := List.mem_map.1 hin
    obtain ⟨j, hj, rfl⟩ := List.getElem_of_mem hu
    exact hno j hj e
theorem live_ok : go_ravellaw08_live = some true := by
  obtain ⟨h1, a1, p1, f1⟩ := add_yes (xs := []) (t := api_Timer.mk 9 5) ((fine_iff []).2 ⟨by simp, by simp, by simp, fun k h0 h1 => by simp at h1; omega⟩) (by decide) (fun j h => absurd h (by simp)) (by simp)
  have e1 : h1 = [api_Timer.mk 9 5] := List.perm_singleton.1 p1
  subst e1
  obtain ⟨h2, a2, p2, f2⟩ := add_yes (t := api_Timer.mk 3 6) f1 (by decide) (fun j h => by
    have : j = 0 := by simp at h; omega
    subst this; simp) (by simp)
  obtain ⟨_, _, _, hp⟩ := (fine_iff h2).1 f2
  have hl2 : h2.length = 2 := p2.length_eq
  have hc : go_heap_Check h2 = some 0 := by
    rcases check_ok h2 with ⟨_, _, a⟩ | ⟨a, _⟩
    · exact a
    · exact absurd f2 a
  have hfirst : gt h2 0 = api_Timer.mk 3 6 := by
    match h2, hl2, p2, hp with
    | [a, b], _, p2, hp =>
      have ha : a ∈ [api_Timer.mk 3 6, api_Timer.mk 9 5] := p2.mem_iff.1 (by simp)
      rcases List.mem_cons.1 ha with rfl | ha
      · rfl
      · have ha := List.mem_singleton.1 ha
        subst ha
        have hb : b = api_Timer.mk 3 6 := by
          have := p2.trans (List.Perm.swap _ _ _)
          exact List.singleton_perm_singleton.1 this.cons_inv
        subst hb
        have := hp 1 (by omega) (by simp)
        exact absurd this (by decide)
  rw [go_ravellaw08_live, a1, Option.bind_some]
  show ((go_heap_Add [api_Timer.mk 9 5] (api_Timer.mk 3 6)).bind _) = _
  rw [a2, Option.bind_some]
  show ((go_heap_Least h2).bind _) = _
  rw [go_heap_Least, hc, Option.bind_some, if_neg (by decide), if_neg (by simp [hl2]), if_pos (by omega), hfirst]
  rfl
end Go.Proofs.Ytbcapidhhbkkcaa
