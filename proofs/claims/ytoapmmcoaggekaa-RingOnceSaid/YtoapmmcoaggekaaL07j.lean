/- Helper lemmas for the claim's theorem: an abstract machine over the model, proved sound; no condition beyond each lemma's own. -/
import Derived.Test.YtoapmmcoaggekaaL07i
set_option linter.unusedVariables false
set_option linter.unusedSimpArgs false
set_option linter.unnecessarySimpa false
set_option linter.unusedSectionVars false
/- Plain laws on the printed functions. -/
namespace Go.Proofs.Ytoapmmcoaggekaa
open Go Go.AM
set_option maxRecDepth 100000
set_option maxHeartbeats 1000000
set_option linter.unusedVariables false
set_option linter.unusedSimpArgs false
def dq (C : Int) : api_Deque := ⟨0, C⟩
/-- The deque's memory, and what it holds, from t to b. -/
structure Glob (C : Int) (m : List Int) (t b : Int) (c : List Int) : Prop where
  len : (m.length : Int) = C + 2
  cap : 1 ≤ C ∧ C ≤ 6
  top : gt m 0 = t
  t0 : 0 ≤ t
  tb : t ≤ b
  big : b ≤ 50000
  room : b - t ≤ C
  cl : (c.length : Int) = b - t
  at_ : ∀ k : Nat, k < c.length → gt m (slot (dq C) (t + k)) = gt c k
theorem Glob.ok {C : Int} {m : List Int} {t b : Int} {c : List Int} (g : Glob C m t b c) : QOk m (dq C) := by
  have := g.len
  have := g.cap
  exact ⟨by omega, by show 1 ≤ C ∧ C ≤ 1024; omega, Int.le_refl 0, by show 0 + C + 2 ≤ (m.length : Int); omega⟩
theorem slot2 {C n : Int} (hc : 1 ≤ C) (hn : 0 ≤ n) : 2 ≤ slot (dq C) n ∧ slot (dq C) n ≤ C + 1 := by
  unfold slot dq
  simp only
  rw [Int.tmod_eq_emod_of_nonneg hn]
  have := Int.emod_nonneg n (show C ≠ 0 by omega)
  have := Int.emod_lt_of_pos n (show 0 < C by omega)
  omega
theorem Glob.fit {C : Int} {m : List Int} {t b T B : Int} {c : List Int} (g : Glob C m t b c) (h1 : -1 ≤ gt m 1 ∧ gt m 1 ≤ 100000) (hT : -1 ≤ T ∧ T ≤ 100000) (hB : -1 ≤ B ∧ B ≤ 100000) : Fit m (dq C) T B := by
  have e0 : gt m (dq C).Base = t := g.top
  have a1 := g.t0
  have a2 := g.tb
  have a3 := g.big
  exact ⟨g.ok, by omega, h1, hT, hB⟩
theorem Glob.st1 {C : Int} {m : List Int} {t b : Int} {c : List Int} (g : Glob C m t b c) (x : Int) : Glob C (st m 1 x) t b c := by
  have hl := g.len
  have hc := g.cap
  have h0 := g.t0
  refine ⟨by rw [st_len]; exact hl, g.cap, by rw [gt_st_ne (by omega) (by omega) (by omega)]; exact g.top, g.t0, g.tb, g.big, g.room, g.cl, fun k hk => ?_⟩
  have := slot2 (C := C) hc.1 (n := t + k) (by omega)
  rw [gt_st_ne (by omega) (by omega) (by omega)]
  exact g.at_ k hk
theorem Glob.stS {C : Int} {m : List Int} {t b : Int} {c : List Int} (g : Glob C m t b c) (hr : b - t < C) (v : Int) : Glob C (st m (slot (dq C) b) v) t b c ∧ gt (st m (slot (dq C) b) v) 1 = gt m 1 ∧ gt (st m (slot (dq C) b) v) (slot (dq C) b) = v := by
  have hl := g.len
  have hc := g.cap
  have h0 := g.t0
  have h1 := g.tb
  have hcl := g.cl
  have sb := slot2 (C := C) hc.1 (n := b) (by omega)
  refine ⟨⟨by rw [st_len]; exact hl, g.cap, by rw [gt_st_ne (by omega) (by omega) (by omega)]; exact g.top, g.t0, g.tb, g.big, g.room, g.cl, fun k hk => ?_⟩, gt_st_ne (by omega) (by omega) (by omega), gt_st_eq (by omega)⟩
  have := slot2 (C := C) hc.1 (n := t + k) (by omega)
  have hne := slot_ne g.ok (x := t + k) (y := b) (by omega) (by omega) (show b - (t + k) < C by omega)
  rw [gt_st_ne (by omega) (by omega) (Ne.symm hne)]
  exact g.at_ k hk
theorem Glob.grow {C : Int} {m : List Int} {t b v : Int} {c : List Int} (g : Glob C m t b c) (hr : b - t < C) (hv : gt m (slot (dq C) b) = v) (hb : b + 1 ≤ 50000) : Glob C m t (b + 1) (c ++ [v]) := by
  have hcl := g.cl
  have h1 := g.tb
  refine ⟨g.len, g.cap, g.top, g.t0, by omega, hb, by omega, by simp; omega, fun k hk => ?_⟩
  rw [List.length_append, List.length_singleton] at hk
  by_cases e : k < c.length
  · rw [g.at_ k e, gt_nat e, gt_nat (by simp; omega), List.getElem_append_left e]
  · have : k = c.length := by omega
    subst this
    rw [show t + (c.length : Int) = b by omega, hv, gt_nat (by simp)]
    simp
theorem Glob.shrink {C : Int} {m : List Int} {t b : Int} {c : List Int} (g : Glob C m t b c) (hr : t ≤ b - 1) : Glob C m t (b - 1) c.dropLast := by
  have hcl := g.cl
  have h2 := g.big
  have h3 := g.room
  refine ⟨g.len, g.cap, g.top, g.t0, hr, by omega, by omega, by rw [List.length_dropLast]; omega, fun k hk => ?_⟩
  rw [List.length_dropLast] at hk
  rw [g.at_ k (by omega), gt_nat (by omega), gt_nat (by rw [List.length_dropLast]; omega), List.getElem_dropLast]
theorem Glob.take {C : Int} {m : List Int} {t b : Int} {c : List Int} (g : Glob C m t b c) (hr : t < b) : Glob C (st m 0 (t + 1)) (t + 1) b c.tail := by
  have hl := g.len
  have hc := g.cap
  have h0 := g.t0
  have hcl := g.cl
  have h3 := g.room
  refine ⟨by rw [st_len]; exact hl, g.cap, gt_st_eq (by omega), by omega, by omega, g.big, by omega, by rw [List.length_tail]; omega, fun k hk => ?_⟩
  rw [List.length_tail] at hk
  have := slot2 (C := C) hc.1 (n := t + 1 + k) (by omega)
  rw [gt_st_ne (by omega) (by omega) (by omega)]
  have h := g.at_ (k + 1) (by omega)
  rw [show t + 1 + (k : Int) = t + ((k + 1 : Nat) : Int) by omega, h, gt_nat (by omega), gt_nat (by rw [List.length_tail]; omega), List.getElem_tail]
theorem Glob.one {C : Int} {m : List Int} {t b : Int} {c : List Int} (g : Glob C m t b c) (x : Int) : gt (st m 1 x) 1 = x := gt_st_eq (by have := g.len; have := g.cap; omega)
theorem Glob.zero {C : Int} {m : List Int} {t b : Int} {c : List Int} (g : Glob C m t b c) (x : Int) : gt (st m 0 x) 1 = gt m 1 := gt_st_ne (by omega) (by omega) (by omega)
theorem Glob.zeroS {C : Int} {m : List Int} {t b : Int} {c : List Int} (g : Glob C m t b c) (x : Int) {n : Int} (hn : 0 ≤ n) : gt (st m 0 x) (slot (dq C) n) = gt m (slot (dq C) n) := by
  have := slot2 (C := C) g.cap.1 hn
  exact gt_st_ne (by omega) (by omega) (by omega)
theorem Glob.head {C : Int} {m : List Int} {t b : Int} {c : List Int} (g : Glob C m t b c) (h : t < b) : gt m (slot (dq C) t) = gt c 0 ∧ c = gt c 0 :: c.tail := by
  have hcl := g.cl
  have := g.at_ 0 (by omega)
  rw [show t + ((0 : Nat) : Int) = t by omega] at this
  refine ⟨this, ?_⟩
  cases c with
  | nil => simp at hcl; omega
  | cons x r => rfl
theorem Glob.lastc {C : Int} {m : List Int} {t b : Int} {c : List Int} (g : Glob C m t b c) (h : t < b) : c = c.dropLast ++ [gt m (slot (dq C) (b - 1))] := by
  have hcl := g.cl
  have hne : c ≠ [] := fun e => by rw [e] at hcl; simp at hcl; omega
  have := g.at_ (c.length - 1) (by omega)
  rw [show t + ((c.length - 1 : Nat) : Int) = b - 1 by omega, gt_nat (by omega)] at this
  rw [this, ← List.getLast_eq_getElem hne]
  exact (List.dropLast_concat_getLast hne).symm
/-- It is about to take the last one, which nobody else may take. -/
def exB (h : api_Hand) : Prop := h.Kind = 2 ∧ h.Pc = 4 ∧ h.State = 0 ∧ h.T < h.B
def bd7 (T : Int) : Prop := -1 ≤ T ∧ T ≤ 100000
/-- The owner's hand. -/
inductive Own (C : Int) (m : List Int) (t b : Int) (c : List Int) (n : Int) : api_Hand → Prop
  | idle {h : api_Hand} (hk : h.Kind = 0 ∨ h.State ≠ 0) (hb : gt m 1 = b) : Own C m t b c n h
  | u0 {T B : Int} {W : Bool} (hT : bd7 T) (hB : bd7 B) (hb : gt m 1 = b) : Own C m t b c n ⟨1, 0, n, T, B, W, 0⟩
  | u1 {T B : Int} {W : Bool} (hT : 0 ≤ T ∧ T ≤ t) (hB : bd7 B) (hb : gt m 1 = b) : Own C m t b c n ⟨1, 1, n, T, B, W, 0⟩
  | u2 {T : Int} {W : Bool} (hT : 0 ≤ T ∧ T ≤ t) (hc : b - T < C) (hb : gt m 1 = b) : Own C m t b c n ⟨1, 2, n, T, b, W, 0⟩
  | u3 {T : Int} {W : Bool} (hT : 0 ≤ T ∧ T ≤ t) (hc : b - T < C) (hb : gt m 1 = b) (hv : gt m (slot (dq C) b) = n) : Own C m t b c n ⟨1, 3, n, T, b, W, 0⟩
  | o0 {V T B : Int} {W : Bool} (hT : bd7 T) (hB : bd7 B) (hb : gt m 1 = b) : Own C m t b c n ⟨2, 0, V, T, B, W, 0⟩
  | o1 {V T : Int} {W : Bool} (hT : bd7 T) (hb : gt m 1 = b) : Own C m t b c n ⟨2, 1, V, T, b, W, 0⟩
  | o2 {V T : Int} {W : Bool} (hT : bd7 T) (hb : gt m 1 = b - 1) : Own C m t b c n ⟨2, 2, V, T, b - 1, W, 0⟩
  | o3 {V : Int} {W : Bool} (he : t = b) (hb : gt m 1 = b - 1) : Own C m t b c n ⟨2, 3, V, t, b - 1, W, 0⟩
  | o4x {V T : Int} {W : Bool} (hT : 0 ≤ T ∧ T ≤ t) (hx : T < b - 1) (hx2 : t ≤ b - 1) (hb : gt m 1 = b - 1) : Own C m t b c n ⟨2, 4, V, T, b - 1, W, 0⟩
  | o4c {V : Int} {W : Bool} (h0 : 0 ≤ b - 1) (h1 : b - 1 ≤ t) (hb : gt m 1 = b - 1) : Own C m t b c n ⟨2, 4, V, b - 1, b - 1, W, 0⟩
  | o5 {V : Int} {W : Bool} (h0 : 0 ≤ b - 1) (h1 : b - 1 ≤ t) (hb : gt m 1 = b - 1) (hv : t = b - 1 → V = gt c 0) : Own C m t b c n ⟨2, 5, V, b - 1, b - 1, W, 0⟩
  | o6 {V : Int} {W : Bool} (h0 : 0 ≤ b - 1) (he : t = b) (hb : gt m 1 = b - 1) : Own C m t b c n ⟨2, 6, V, b - 1, b - 1, W, 0⟩
/-- The hand of somebody else. -/
inductive Thf (t b : Int) (c : List Int) (ex : Prop) : api_Hand → Prop
  | idle {h : api_Hand} (hk : h.Kind = 0 ∨ h.State ≠ 0) : Thf t b c ex h
  | a0 {V T B : Int} {W : Bool} (hT : bd7 T) (hB : bd7 B) : Thf t b c ex ⟨3, 0, V, T, B, W, 0⟩
  | a1 {V T B : Int} {W : Bool} (hT : 0 ≤ T ∧ T ≤ t) (hB : bd7 B) : Thf t b c ex ⟨3, 1, V, T, B, W, 0⟩
  | a2 {V T B : Int} {W : Bool} (hT : 0 ≤ T ∧ T ≤ t) (hB : bd7 B) (hx : T = t → t < b ∧ (ex → t < b - 1)) : Thf t b c ex ⟨3, 2, V, T, B, W, 0⟩
  | a3 {V T B : Int} {W : Bool} (hT : 0 ≤ T ∧ T ≤ t) (hB : bd7 B) (hx : T = t → t < b ∧ (ex → t < b - 1)) (hv : T = t → V = gt c 0) : Thf t b c ex ⟨3, 3, V, T, B, W, 0⟩
/-- Another state in which the others' hands are as good. -/
theorem Thf.mv {t b t' b' : Int} {c c' : List Int} {ex ex' : Prop} (ht : t ≤ t') (h : t = t' → (t < b ∧ (ex → t < b - 1)) → (t' < b' ∧ (ex' → t' < b' - 1)) ∧ gt c' 0 = gt c 0) {hd : api_Hand} (s : Thf t b c ex hd) : Thf t' b' c' ex' hd := by
  cases s with
  | idle hk => exact .idle hk
  | a0 hT hB => exact .a0 hT hB
  | a1 hT hB => exact .a1 ⟨hT.1, by omega⟩ hB
  | a2 hT hB hx =>
    refine .a2 ⟨hT.1, by omega⟩ hB fun e => ?_
    have e2 : t = t' := by omega
    exact (h e2 (hx (by omega))).1
  | a3 hT hB hx hv =>
    refine .a3 ⟨hT.1, by omega⟩ hB (fun e => ?_) fun e => ?_
    · have e2 : t = t' := by omega
      exact (h e2 (hx (by omega))).1
    · have e2 : t = t' := by omega
      rw [hv (by omega), (h e2 (hx (by omega))).2]
theorem Own.take {C : Int} {m : List Int} {t b : Int} {c : List Int} {n : Int} {h : api_Hand} (g : Glob C m t b c) (o : Own C m t b c n h) (h1 : t < b) (h2 : exB h → t < b - 1) : Own C (st m 0 (t + 1)) (t + 1) b c.tail n h := by
  have z := g.zero (t + 1)
  have t0 := g.t0
  cases o with
  | idle hk hb => exact .idle hk (z.trans hb)
  | u0 hT hB hb => exact .u0 hT hB (z.trans hb)
  | u1 hT hB hb => exact .u1 ⟨hT.1, by omega⟩ hB (z.trans hb)
  | u2 hT hc hb => exact .u2 ⟨hT.1, by omega⟩ hc (z.trans hb)
  | u3 hT hc hb hv => exact .u3 ⟨hT.1, by omega⟩ hc (z.trans hb) ((g.zeroS _ (by omega)).trans hv)
  | o0 hT hB hb => exact .o0 hT hB (z.trans hb)
  | o1 hT hb => exact .o1 hT (z.trans hb)
  | o2 hT hb => exact .o2 hT (z.trans hb)
  | o3 he hb => omega
  | o4x hT hx hx2 hb =>
    have := h2 ⟨rfl, rfl, rfl, hx⟩
    exact .o4x ⟨hT.1, by omega⟩ hx (by omega) (z.trans hb)
  | o4c h0 h3 hb => exact .o4c h0 (by omega) (z.trans hb)
  | o5 h0 h3 hb hv => exact .o5 h0 (by omega) (z.trans hb) (fun e => by omega)
  | o6 h0 he hb => omega

end Go.Proofs.Ytoapmmcoaggekaa
