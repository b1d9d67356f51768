/- Helper lemmas for the claim's theorem: an abstract machine over the model, proved sound; no condition beyond each lemma's own. -/
import Derived.Test.YtoapmmcoaggekaaL07j
set_option linter.unusedVariables false
set_option linter.unusedSimpArgs false
set_option linter.unnecessarySimpa false
set_option linter.unusedSectionVars false
/- Plain laws on the printed functions. -/
namespace Go.Proofs.Ytoapmmcoaggekaa
open Go Go.AM
set_option maxRecDepth 100000
set_option maxHeartbeats 1000000
set_option linter.unusedVariables false
set_option linter.unusedSimpArgs false
def iota (n : Nat) : List Int := (List.range n).map fun (i : Nat) => ((i : Int) + 1)
def pend (h : api_Hand) : List Int := if h.State = 0 ∧ (h.Kind = 1 ∨ (h.Kind = 2 ∧ h.Pc = 6 ∧ h.Won = true)) then [h.V] else []
abbrev Mp7 := List (Int × Int)
/-- Each number that was pushed is in one place. -/
structure Acc7 (n : Nat) (g : Mp7) (c pd : List Int) : Prop where
  perm : (g.map (·.1) ++ c ++ pd).Perm (iota n)
  ones : ∀ p ∈ g, p.2 = 1
  srt : c.Pairwise (· < ·)
/-- What comes of a hand's end. -/
def ends7 (h : api_Hand) : Bool := (h.State == 1 && h.Kind != 1) || h.State == 3
def gotR (g : Mp7) (h : api_Hand) : Mp7 := if ends7 h = true then g ++ [(h.V, 1)] else g
theorem iota_mem {n : Nat} {v : Int} : v ∈ iota n ↔ 1 ≤ v ∧ v ≤ n := by
  unfold iota
  rw [List.mem_map]
  constructor
  · rintro ⟨i, hi, rfl⟩
    have := List.mem_range.1 hi
    omega
  · intro h
    exact ⟨(v - 1).toNat, List.mem_range.2 (by omega), by omega⟩
theorem iota_nodup (n : Nat) : (iota n).Nodup := by
  unfold iota
  exact List.pairwise_map.2 (List.nodup_range.imp fun h e => h (by omega))
theorem iota_succ (n : Nat) : iota (n + 1) = iota n ++ [(n : Int) + 1] := by
  unfold iota; rw [List.range_succ, List.map_append]; rfl
theorem Acc7.nodup {n : Nat} {g : Mp7} {c pd : List Int} (a : Acc7 n g c pd) : (g.map (·.1) ++ c ++ pd).Nodup := a.perm.nodup_iff.2 (iota_nodup n)
theorem Acc7.fresh_c {n : Nat} {g : Mp7} {c pd : List Int} (a : Acc7 n g c pd) {v : Int} (h : v ∈ c) : v ∉ g.map (·.1) := fun hg => by
  have := (List.nodup_append.1 (List.nodup_append.1 a.nodup).1).2.2 v hg v h
  exact this rfl
theorem Acc7.fresh_p {n : Nat} {g : Mp7} {c pd : List Int} (a : Acc7 n g c pd) {v : Int} (h : v ∈ pd) : v ∉ g.map (·.1) := fun hg => by
  have := (List.nodup_append.1 a.nodup).2.2 v (List.mem_append.2 (.inl hg)) v h
  exact this rfl
/-- A pending one is taken. -/
theorem Acc7.took_p {n : Nat} {g : Mp7} {c : List Int} {v : Int} (a : Acc7 n g c [v]) : Acc7 n (g ++ [(v, 1)]) c [] := by
  refine ⟨?_, fun p hp => ?_, a.srt⟩
  · refine List.Perm.trans ?_ a.perm
    rw [List.append_nil, List.map_append]
    show (g.map (·.1) ++ [v] ++ c).Perm (g.map (·.1) ++ c ++ [v])
    rw [List.append_assoc, List.append_assoc]
    exact List.Perm.append_left _ List.perm_append_comm
  · rcases List.mem_append.1 hp with h | h
    · exact a.ones p h
    · rw [List.mem_singleton.1 h]
/-- The first one is taken. -/
theorem Acc7.took_f {n : Nat} {g : Mp7} {c pd : List Int} {v : Int} (a : Acc7 n g (v :: c) pd) : Acc7 n (g ++ [(v, 1)]) c pd := by
  refine ⟨?_, fun p hp => ?_, (List.pairwise_cons.1 a.srt).2⟩
  · have := a.perm
    rw [List.map_append]
    show (g.map (·.1) ++ [v] ++ c ++ pd).Perm _
    simpa using this
  · rcases List.mem_append.1 hp with h | h
    · exact a.ones p h
    · rw [List.mem_singleton.1 h]
/-- The last one is taken. -/
theorem Acc7.took_l {n : Nat} {g : Mp7} {c : List Int} {v : Int} (a : Acc7 n g (c ++ [v]) []) : Acc7 n (g ++ [(v, 1)]) c [] := by
  refine ⟨?_, fun p hp => ?_, (List.pairwise_append.1 a.srt).1⟩
  · refine List.Perm.trans ?_ a.perm
    rw [List.append_nil, List.append_nil, List.map_append]
    show (g.map (·.1) ++ [v] ++ c).Perm (g.map (·.1) ++ (c ++ [v]))
    rw [List.append_assoc]
    exact List.Perm.append_left _ List.perm_append_comm
  · rcases List.mem_append.1 hp with h | h
    · exact a.ones p h
    · rw [List.mem_singleton.1 h]
/-- The first one is in a hand. -/
theorem Acc7.hand_f {n : Nat} {g : Mp7} {v : Int} (a : Acc7 n g [v] []) : Acc7 n g [] [v] := ⟨by simpa using a.perm, a.ones, .nil⟩
/-- It is put. -/
theorem Acc7.shown {n : Nat} {g : Mp7} {c : List Int} (a : Acc7 n g c [(n : Int)]) : Acc7 n g (c ++ [(n : Int)]) [] := by
  refine ⟨by simpa using a.perm, a.ones, List.pairwise_append.2 ⟨a.srt, List.pairwise_singleton .., fun x hx y hy => ?_⟩⟩
  rw [List.mem_singleton.1 hy]
  have hm : x ∈ iota n := a.perm.subset (List.mem_append.2 (.inl (List.mem_append.2 (.inr hx))))
  have h1 := iota_mem.1 hm
  have h2 : x ≠ (n : Int) := fun e => by
    have := (List.nodup_append.1 a.nodup).2.2 x (List.mem_append.2 (.inr hx)) (n : Int) (List.mem_singleton.2 rfl)
    exact this e
  omega
theorem Acc7.next {n : Nat} {g : Mp7} {c : List Int} (a : Acc7 n g c []) : Acc7 (n + 1) g c [((n + 1 : Nat) : Int)] := by
  refine ⟨?_, a.ones, a.srt⟩
  rw [iota_succ]
  have := a.perm
  rw [List.append_nil] at this
  exact this.append_right _
/-- What a step of a hand brings about. -/
structure Goes (h h' : api_Hand) : Prop where
  kind : h'.Kind = h.Kind
  goes : h'.State ≠ 0 ∨ h.Pc < h'.Pc
  pc : 0 ≤ h.Pc ∧ h.Pc < 7
theorem q0 (C : Int) : (dq C).Base = 0 := rfl
theorem q1 (C : Int) : (dq C).Base + 1 = 1 := rfl
theorem mget_no {g : Mp7} {v : Int} (h : v ∉ g.map (·.1)) : mget g v = none := by
  induction g with
  | nil => rfl
  | cons p r ih =>
    obtain ⟨x, y⟩ := p
    simp only [List.map_cons, List.mem_cons, not_or] at h
    simp only [mget]
    rw [if_neg h.1]
    exact ih h.2
theorem own_bot {C : Int} {m : List Int} {t b : Int} {c : List Int} {n : Int} {h : api_Hand} (o : Own C m t b c n h) : (gt m 1 = b ∨ gt m 1 = b - 1) ∧ (exB h → gt m 1 = b - 1) := by
  cases o with
  | idle hk hb => exact ⟨.inl hb, fun e => (by rcases hk with h | h; have := e.1; omega; exact absurd e.2.2.1 h)⟩
  | u0 _ _ hb => exact ⟨.inl hb, fun e => by have := e.1; simp at this⟩
  | u1 _ _ hb => exact ⟨.inl hb, fun e => by have := e.1; simp at this⟩
  | u2 _ _ hb => exact ⟨.inl hb, fun e => by have := e.1; simp at this⟩
  | u3 _ _ hb _ => exact ⟨.inl hb, fun e => by have := e.1; simp at this⟩
  | o0 _ _ hb => exact ⟨.inl hb, fun e => by have := e.2.1; simp at this⟩
  | o1 _ hb => exact ⟨.inl hb, fun e => by have := e.2.1; simp at this⟩
  | o2 _ hb => exact ⟨.inr hb, fun _ => hb⟩
  | o3 _ hb => exact ⟨.inr hb, fun _ => hb⟩
  | o4x _ _ _ hb => exact ⟨.inr hb, fun _ => hb⟩
  | o4c _ _ hb => exact ⟨.inr hb, fun _ => hb⟩
  | o5 _ _ hb _ => exact ⟨.inr hb, fun _ => hb⟩
  | o6 _ _ hb => exact ⟨.inr hb, fun _ => hb⟩
theorem thf_same {t b : Int} {c : List Int} {ex ex' : Prop} (h : t < b → ex' → t < b - 1) {x : api_Hand} (s : Thf t b c ex x) : Thf t b c ex' x := s.mv (Int.le_refl t) fun _ hh => ⟨⟨hh.1, h hh.1⟩, rfl⟩
theorem thf_step {C : Int} {m : List Int} {t b : Int} {c : List Int} {n : Nat} {g : Mp7} {h h0 : api_Hand} (gl : Glob C m t b c) (o : Own C m t b c n h0) (th : Thf t b c (exB h0) h) (a : Acc7 n g c (pend h0)) (hs : h.State = 0) (hk : h.Kind ≠ 0) :
    ∃ m' h', go_ring_Step m (dq C) h = some (m', h', 0) ∧ Goes h h' ∧ (ends7 h' = true → mget g h'.V = none) ∧ ∃ t' c', Glob C m' t' b c' ∧ Own C m' t' b c' n h0 ∧ Thf t' b c' (exB h0) h' ∧ (∀ x, Thf t b c (exB h0) x → Thf t' b c' (exB h0) x) ∧ Acc7 n (gotR g h') c' (pend h0) := by
  have t0 := gl.t0
  have tb := gl.tb
  have big := gl.big
  have top : gt m (dq C).Base = t := gl.top
  obtain ⟨bot, botx⟩ := own_bot o
  have f1 : -1 ≤ gt m 1 ∧ gt m 1 ≤ 100000 := by omega
  cases th with
  | idle hk' => rcases hk' with h | h; exact absurd h hk; exact absurd hs h
  | a0 hT hB => exact ⟨_, _, s0 (gl.fit f1 hT hB), ⟨rfl, .inr (by simp), by simp⟩, fun e => by simp [ends7] at e, t, c, gl, o, by rw [top]; exact .a1 ⟨t0, Int.le_refl t⟩ hB, fun _ h => h, a⟩
  | a1 hT hB =>
    rename_i V T B W
    have hs1 := s1 (m := m) (q := dq C) (V := V) (W := W) (gl.fit f1 (T := T) (by omega) hB)
    by_cases hc : gt m ((dq C).Base + 1) - T < 1
    · rw [if_pos hc] at hs1
      exact ⟨_, _, hs1, ⟨rfl, .inl (by simp), by simp⟩, fun e => by simp [ends7] at e, t, c, gl, o, .idle (.inr (by simp)), fun _ h => h, a⟩
    · rw [if_neg hc] at hs1
      rw [q1] at hc hs1
      exact ⟨_, _, hs1, ⟨rfl, .inr (by simp), by simp⟩, fun e => by simp [ends7] at e, t, c, gl, o, .a2 hT f1 (fun e => ⟨by omega, fun ex => by have := botx ex; omega⟩), fun _ h => h, a⟩
  | a2 hT hB hx =>
    exact ⟨_, _, s2 (gl.fit f1 (by omega) hB) hT.1, ⟨rfl, .inr (by simp), by simp⟩, fun e => by simp [ends7] at e, t, c, gl, o, .a3 hT hB hx (fun e => by rw [e]; exact (gl.head (hx e).1).1), fun _ h => h, a⟩
  | a3 hT hB hx hv =>
    rename_i V T B W
    have hs3 := s3 (m := m) (q := dq C) (V := V) (W := W) (gl.fit f1 (T := T) (by omega) hB) hT.1
    rw [top] at hs3
    by_cases hc : t = T
    · subst hc
      rw [if_pos rfl, if_pos rfl] at hs3
      have hx := hx rfl
      have hd := gl.head hx.1
      have hV := hv rfl
      rw [hd.2] at a
      refine ⟨_, _, hs3, ⟨rfl, .inl (by simp), by simp⟩, fun e => mget_no (a.fresh_c (by simp [hV])), t + 1, c.tail, gl.take hx.1, o.take gl hx.1 hx.2, .idle (.inr (by simp)), fun x h => h.mv (by omega) (fun e => by omega), ?_⟩
      have := a.took_f
      rw [← hV] at this
      exact this
    · rw [if_neg hc, if_neg hc] at hs3
      exact ⟨_, _, hs3, ⟨rfl, .inl (by simp), by simp⟩, fun e => by simp [ends7] at e, t, c, gl, o, .idle (.inr (by simp)), fun _ h => h, a⟩
theorem own_step {C : Int} {m : List Int} {t b : Int} {c : List Int} {n : Nat} {g : Mp7} {h : api_Hand} (gl : Glob C m t b c) (o : Own C m t b c n h) (a : Acc7 n g c (pend h)) (hbn : b + (if h.State = 0 ∧ h.Kind = 1 then 1 else 0) ≤ n) (hn : n ≤ 10000) (hs : h.State = 0) (hk : h.Kind ≠ 0) :
    ∃ m' h', go_ring_Step m (dq C) h = some (m', h', 0) ∧ Goes h h' ∧ (ends7 h' = true → mget g h'.V = none) ∧ ∃ t' b' c', Glob C m' t' b' c' ∧ Own C m' t' b' c' n h' ∧ (∀ x, Thf t b c (exB h) x → Thf t' b' c' (exB h') x) ∧ Acc7 n (gotR g h') c' (pend h') ∧ b' + (if h'.State = 0 ∧ h'.Kind = 1 then 1 else 0) ≤ n := by
  have t0 := gl.t0
  have tb := gl.tb
  have big := gl.big
  have top : gt m (dq C).Base = t := gl.top
  obtain ⟨bot, botx⟩ := own_bot o
  have f1 : -1 ≤ gt m 1 ∧ gt m 1 ≤ 100000 := by omega
  cases o with
  | idle hk' hb => rcases hk' with h | h; exact absurd h hk; exact absurd hs h
  | u0 hT hB hb =>
    refine ⟨_, _, p0 (gl.fit f1 hT hB), ⟨rfl, .inr (by simp), by simp⟩, fun e => by simp [ends7] at e, t, b, c, gl, by rw [top]; exact .u1 ⟨t0, Int.le_refl t⟩ hB hb, fun x h => thf_same (fun _ e => by have := e.1; simp at this) h, a, by simpa using hbn⟩
  | u1 hT hB hb =>
    rename_i T B W
    have hs1 := p1 (m := m) (q := dq C) (V := (n : Int)) (W := W) (gl.fit f1 (T := T) (by omega) hB) (by rw [q1]; omega)
    rw [q1, hb] at hs1
    by_cases hc : b - T ≥ (dq C).Cap
    · rw [if_pos hc] at hs1
      exact ⟨_, _, hs1, ⟨rfl, .inl (by simp), by simp⟩, fun e => mget_no (a.fresh_p (by simp [pend])), t, b, c, gl, .idle (.inr (by simp)) hb, fun x h => thf_same (fun _ e => by have := e.1; simp at this) h, a.took_p, by simp at hbn ⊢; omega⟩
    · rw [if_neg hc] at hs1
      exact ⟨_, _, hs1, ⟨rfl, .inr (by simp), by simp⟩, fun e => by simp [ends7] at e, t, b, c, gl, .u2 hT (by simp [dq] at hc; omega) hb, fun x h => thf_same (fun _ e => by have := e.1; simp at this) h, a, by simpa using hbn⟩
  | u2 hT hc hb =>
    have hS := gl.stS (by omega) (n : Int)
    exact ⟨_, _, p2 (gl.fit f1 (by omega) (by omega)) (by omega), ⟨rfl, .inr (by simp), by simp⟩, fun e => by simp [ends7] at e, t, b, c, hS.1, .u3 hT hc (hS.2.1.trans hb) hS.2.2, fun x h => thf_same (fun _ e => by have := e.1; simp at this) h, a, by simpa using hbn⟩
  | u3 hT hc hb hv =>
    have hbn' : b + 1 ≤ n := by simpa using hbn
    refine ⟨_, _, p3 (gl.fit f1 (by omega) (by omega)) (by omega), ⟨rfl, .inl (by simp), by simp⟩, fun e => by simp [ends7] at e, t, b + 1, c ++ [(n : Int)], (gl.grow (by omega) hv (by omega)).st1 (b + 1), .idle (.inr (by simp)) (gl.one (b + 1)), fun x h => h.mv (Int.le_refl t) fun _ hh => ⟨⟨by omega, fun e => by have := e.1; simp at this⟩, ?_⟩, a.shown, by simpa using hbn'⟩
    have hd := (gl.head hh.1).2
    rw [hd]; rfl
  | o0 hT hB hb =>
    exact ⟨_, _, Go.Proofs.Ytoapmmcoaggekaa.o0 (gl.fit f1 hT hB) (by rw [q1]; omega), ⟨rfl, .inr (by simp), by simp⟩, fun e => by simp [ends7] at e, t, b, c, gl, by rw [q1, hb]; exact .o1 hT hb, fun x h => thf_same (fun _ e => by have := e.2.1; simp at this) h, a, by simpa using hbn⟩
  | o1 hT hb =>
    exact ⟨_, _, Go.Proofs.Ytoapmmcoaggekaa.o1 (gl.fit f1 hT (by omega)) (by omega), ⟨rfl, .inr (by simp), by simp⟩, fun e => by simp [ends7] at e, t, b, c, gl.st1 (b - 1), .o2 hT (gl.one (b - 1)), fun x h => thf_same (fun _ e => by have := e.2.1; simp at this) h, a, by simpa using hbn⟩
  | o2 hT hb =>
    rename_i V T W
    have hs2 := Go.Proofs.Ytoapmmcoaggekaa.o2 (m := m) (q := dq C) (V := V) (W := W) (gl.fit f1 (T := T) hT (B := b - 1) (by omega))
    rw [top] at hs2
    by_cases hc : t > b - 1
    · rw [if_pos hc] at hs2
      exact ⟨_, _, hs2, ⟨rfl, .inr (by simp), by simp⟩, fun e => by simp [ends7] at e, t, b, c, gl, .o3 (by omega) hb, fun x h => thf_same (fun _ e => by have := e.2.1; simp at this) h, a, by simpa using hbn⟩
    · rw [if_neg hc] at hs2
      by_cases hx : t < b - 1
      · exact ⟨_, _, hs2, ⟨rfl, .inr (by simp), by simp⟩, fun e => by simp [ends7] at e, t, b, c, gl, .o4x ⟨t0, Int.le_refl t⟩ hx (by omega) hb, fun x h => thf_same (fun _ _ => hx) h, a, by simpa using hbn⟩
      · have e : t = b - 1 := by omega
        rw [e] at hs2
        exact ⟨_, _, hs2, ⟨rfl, .inr (by simp), by simp⟩, fun e => by simp [ends7] at e, t, b, c, gl, .o4c (by omega) (by omega) hb, fun x h => thf_same (fun _ e => by have := e.2.2.2; simp at this) h, a, by simpa using hbn⟩
  | o3 he hb =>
    exact ⟨_, _, Go.Proofs.Ytoapmmcoaggekaa.o3 (gl.fit f1 (by omega) (by omega)) t0, ⟨rfl, .inl (by simp), by simp⟩, fun e => by simp [ends7] at e, t, b, c, gl.st1 t, .idle (.inr (by simp)) ((gl.one t).trans he), fun x h => thf_same (fun _ e => by have := e.2.1; simp at this) h, a, by simpa using hbn⟩
  | o4x hT hx hx2 hb =>
    rename_i V T W
    have hs4 := Go.Proofs.Ytoapmmcoaggekaa.o4 (m := m) (q := dq C) (V := V) (W := W) (gl.fit f1 (T := T) (by omega) (B := b - 1) (by omega)) (by omega)
    rw [if_pos (by omega)] at hs4
    have hl := gl.lastc (by omega)
    have a' : Acc7 n g (c.dropLast ++ [gt m (slot (dq C) (b - 1))]) [] := by rw [← hl]; exact a
    refine ⟨_, _, hs4, ⟨rfl, .inl (by simp), by simp⟩, fun e => mget_no (a'.fresh_c (by simp)), t, b - 1, c.dropLast, gl.shrink hx2, .idle (.inr (by simp)) hb, fun x h => h.mv (Int.le_refl t) fun _ hh => ?_, a'.took_l, by simp at hbn ⊢; omega⟩
    have h3 := hh.2 ⟨rfl, rfl, rfl, hx⟩
    refine ⟨⟨h3, fun e => by have := e.2.2.1; simp at this⟩, ?_⟩
    have hcl := gl.cl
    have e0 : gt c 0 = c[0]'(by omega) := gt_nat (i := 0) (by omega)
    have e1 : gt c.dropLast 0 = c.dropLast[0]'(by rw [List.length_dropLast]; omega) := gt_nat (i := 0) (by rw [List.length_dropLast]; omega)
    rw [e0, e1, List.getElem_dropLast]
  | o4c h0 h1 hb =>
    rename_i V W
    have hs4 := Go.Proofs.Ytoapmmcoaggekaa.o4 (m := m) (q := dq C) (V := V) (W := W) (gl.fit f1 (T := b - 1) (by omega) (B := b - 1) (by omega)) (by omega)
    rw [if_neg (by omega)] at hs4
    exact ⟨_, _, hs4, ⟨rfl, .inr (by simp), by simp⟩, fun e => by simp [ends7] at e, t, b, c, gl, .o5 h0 h1 hb (fun e => by rw [← e]; exact (gl.head (by omega)).1), fun x h => thf_same (fun _ e => by have := e.2.1; simp at this) h, a, by simpa using hbn⟩
  | o5 h0 h1 hb hv =>
    rename_i V W
    have hs5 := Go.Proofs.Ytoapmmcoaggekaa.o5 (m := m) (q := dq C) (V := V) (W := W) (gl.fit f1 (T := b - 1) (by omega) (B := b - 1) (by omega)) h0
    rw [top] at hs5
    by_cases hc : t = b - 1
    · rw [if_pos hc, decide_eq_true hc] at hs5
      have hcl := gl.cl
      have hd := gl.head (by omega)
      have ht : c.tail = [] := List.length_eq_zero_iff.1 (by rw [List.length_tail]; omega)
      have hc1 : c = [gt c 0] := by rw [ht] at hd; exact hd.2
      have hV := hv hc
      have a' : Acc7 n g [V] [] := by rw [hV, ← hc1]; exact a
      refine ⟨_, _, hs5, ⟨rfl, .inr (by simp), by simp⟩, fun e => by simp [ends7] at e, t + 1, b, c.tail, ?_, ?_, fun x h => h.mv (by omega) (fun e => by omega), by rw [ht]; exact a'.hand_f, by simpa using hbn⟩
      · rw [← hc]; exact gl.take (by omega)
      · refine .o6 h0 (by omega) ?_
        have := gl.zero (t + 1)
        rw [← hc]
        exact (this.trans hb).trans hc.symm
    · rw [if_neg hc, decide_eq_false hc] at hs5
      exact ⟨_, _, hs5, ⟨rfl, .inr (by simp), by simp⟩, fun e => by simp [ends7] at e, t, b, c, gl, .o6 h0 (by omega) hb, fun x h => thf_same (fun _ e => by have := e.2.1; simp at this) h, a, by simpa using hbn⟩
  | o6 h0 he hb =>
    rename_i V W
    have hs6 := Go.Proofs.Ytoapmmcoaggekaa.o6 (m := m) (q := dq C) (V := V) (W := W) (gl.fit f1 (T := b - 1) (by omega) (B := b - 1) (by omega)) h0
    have h1 : gt (st m 1 (b - 1 + 1)) 1 = b := (gl.one _).trans (by omega)
    cases W with
    | true =>
      rw [if_pos rfl] at hs6
      exact ⟨_, _, hs6, ⟨rfl, .inl (by simp), by simp⟩, fun e => mget_no (a.fresh_p (by simp [pend])), t, b, c, gl.st1 _, .idle (.inr (by simp)) h1, fun x h => thf_same (fun _ e => by have := e.2.1; simp at this) h, a.took_p, by simpa using hbn⟩
    | false =>
      rw [if_neg (by simp)] at hs6
      exact ⟨_, _, hs6, ⟨rfl, .inl (by simp), by simp⟩, fun e => by simp [ends7] at e, t, b, c, gl.st1 _, .idle (.inr (by simp)) h1, fun x h => thf_same (fun _ e => by have := e.2.1; simp at this) h, a, by simpa using hbn⟩

end Go.Proofs.Ytoapmmcoaggekaa
