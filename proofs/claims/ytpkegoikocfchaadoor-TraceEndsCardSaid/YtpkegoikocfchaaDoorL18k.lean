/- Helper lemmas for the claim's theorem: an abstract machine over the model, proved sound; no condition beyond each lemma's own. -/
import Derived.Test.YtpkegoikocfchaaDoorL18j
set_option linter.unusedVariables false
set_option linter.unusedSimpArgs false
set_option linter.unnecessarySimpa false
set_option linter.unusedSectionVars false
/- Plain laws on the printed functions. -/
namespace Go.Proofs.YtpkegoikocfchaaDoor
open Go Go.AM
set_option maxRecDepth 100000
set_option maxHeartbeats 1000000
set_option linter.unusedVariables false
set_option linter.unusedSimpArgs false
/-- How many units were done, and how many are left. -/
structure Units (ps : List (List api_Instr)) (e : trace_seen) : Prop where
  gd : gdS ps e
  fit : fitB (Tk.to e.Task 2) (gt ps e.Task.Prog) = true
  num : (e.Task.Ran + leftV e.Task (gt ps e.Task.Prog) = un (gt ps e.Task.Prog) ∧ ((gt ps e.Task.Prog).take e.Task.Pc.toNat).any isX = false) ∨ (e.Task.Ran ≤ un (gt ps e.Task.Prog) + 1 ∧ (e.Task.State = 7 ∨ (e.last.Kind = 2 ∧ e.last.A = 9)))
  did : e.last.Kind = 2 → e.Task.State = 1
theorem left_to (t : api_Task) (p : List api_Instr) (s : Int) : leftV (Tk.to t s) p = leftV t p := rfl
theorem units_of {ps : List (List api_Instr)} {e : trace_seen} (u : Units ps e) : e.Task.Ran ≤ un (gt ps e.Task.Prog) + 1 := by
  rcases u.num with h | h
  · have := (left_nonneg u.fit).1
    rw [left_to] at this
    omega
  · exact h.1
theorem left_zero {t : api_Task} {p : List api_Instr} (hf : fitB t p = true) (hx : (p.take t.Pc.toNat).any isX = false) (h : leftV t p = 0) : insN t p = api_Instr.mk 9 0 0 := by
  obtain ⟨hc, hk, hl, hu⟩ := fit_parts hf
  obtain ⟨hid, hpc, hun, hran⟩ := chk_bounds hc
  obtain ⟨k1, k2, k3⟩ := chkP_parts hk
  apply insN_end
  intro hlt
  unfold leftV at h
  rw [hx] at h
  simp only [Bool.false_eq_true, if_false] at h
  rw [drop_at hpc.1 hlt, un_cons] at h
  have hb := u1_bounds (k3 _ (gt_mem (p := p) (i := t.Pc) (by omega)))
  have hb2 := un_bounds (p := p.drop (t.Pc + 1).toNat) (fun x hx => k3 x (List.mem_of_mem_drop hx)) (by rw [List.length_drop]; omega)
  rcases hu with h0 | ⟨a, b, c⟩
  · rw [h0] at h
    split at h <;> omega
  · rw [if_neg (by omega)] at h
    unfold u1 at h
    rw [if_pos b] at h
    omega
theorem doT_isX {t : api_Task} {p : List api_Instr} (hf : fitB t p = true) (hx : (p.take t.Pc.toNat).any isX = false) (h9 : (insN t p).Op ≠ 9) : (p.take (doT t p).Pc.toNat).any isX = false := by
  obtain ⟨hc, hk, hl, hu⟩ := fit_parts hf
  obtain ⟨hid, hpc, hun, hran⟩ := chk_bounds hc
  unfold doT
  split
  · exact hx
  · simp only
    by_cases hlt : t.Pc < p.length
    · have hm : minI p.length (t.Pc + 1) = t.Pc + 1 := by unfold minI; rw [if_neg (by omega)]
      rw [hm, take_at hpc.1 hlt, List.any_append, hx]
      rw [insN_lt hlt] at h9
      simp [isX, h9]
    · have hm : minI p.length (t.Pc + 1) = t.Pc := by unfold minI; rw [if_pos (by omega)]; omega
      rw [hm]; exact hx
theorem gt_in {ps : List (List api_Instr)} {i : Int} (h : 0 ≤ i ∧ i < ps.length) : gt ps i ∈ ps := by
  have h1 : i = ((i.toNat : Nat) : Int) := by omega
  have h2 : i.toNat < ps.length := by omega
  rw [h1, gt_nat h2]; exact List.getElem_mem _
theorem ckAll_chkP {ps : List (List api_Instr)} (h : ckAll ps = true) {p : List api_Instr} (hp : p ∈ ps) : chkP p = true := by
  unfold ckAll at h
  simp only [Bool.and_eq_true, Bool.not_eq_true'] at h
  have := h.2
  rw [List.any_eq_false] at this
  have := this p hp
  unfold badP at this
  simp at this
  exact this.1
theorem units_all {ps : List (List api_Instr)} (hca : ckAll ps = true) {own : List api_Event} {e : trace_seen} (h : lifeO ps none own = some (some e)) : Units ps e := by
  refine life_ind (P := fun _ e => Units ps e) (fun x e h => ?_) (fun own e x e' u h => ?_) own e h
  · obtain ⟨k1, k2, k3, rfl⟩ := may_born h
    have hg : gdS ps ⟨newT x.Id 0 x.A, x⟩ := ⟨((chk_new.1 k2).2.1), k3⟩
    have hk : chkP (gt ps x.A) = true := ckAll_chkP hca (gt_in hg)
    refine ⟨hg, ?_, .inl ⟨?_, ?_⟩, fun h => by simp only at h; omega⟩
    · have : fitB (newT x.Id 0 x.A) (gt ps x.A) = true := by
        unfold fitB
        rw [k2, hk]
        simp [newT]
      exact fit_to (s := 2) this (by decide)
    · show (0 : Int) + leftV (newT x.Id 0 x.A) (gt ps x.A) = un (gt ps x.A)
      unfold leftV newT
      simp
    · simp [newT]
  · have hg' := (gd_may (fun e0 h0 => by cases h0; exact u.gd) h).1
    obtain ⟨hlast, hc⟩ := may_cases h
    have hun := units_of u
    have pids := doT_ids (Tk.to e.Task 2) (gt ps e.Task.Prog)
    rcases hc with ⟨k, b1, b2, b3, b4, b5, b6⟩ | ⟨k, b1, b2, b3, b4, b5, b6⟩ | ⟨k, b1, b2, b6⟩ | ⟨k, b1, b6⟩ | ⟨k, b1, b6⟩
    · have hprog : e'.Task.Prog = e.Task.Prog := by rw [b6]; exact pids.2.1
      have hok : okS (Tk.to e.Task 2) (gt ps e.Task.Prog) := ⟨u.fit, rfl, b5⟩
      have hfd := fit_do hok
      have hs2 : (doT (Tk.to e.Task 2) (gt ps e.Task.Prog)).State = 2 := (doT_same _ _).2.1
      refine ⟨hg', ?_, ?_, fun _ => by rw [b6]; rfl⟩
      · rw [hprog, b6, to_to]
        exact fit_to hfd (by decide)
      · have hnum : e.Task.Ran + leftV e.Task (gt ps e.Task.Prog) = un (gt ps e.Task.Prog) ∧ ((gt ps e.Task.Prog).take e.Task.Pc.toNat).any isX = false := by
          rcases u.num with h | h
          · exact h
          · rcases h.2 with h7 | h9
            · omega
            · exact absurd h9 b4
        have hleft := left_do u.fit
        rw [left_to] at hleft
        have hnn := (left_nonneg u.fit).1
        rw [left_to] at hnn
        have hran : e'.Task.Ran = e.Task.Ran + 1 := by rw [b6]; exact pids.2.2
        have hl' : leftV e'.Task (gt ps e.Task.Prog) = leftV (doT (Tk.to e.Task 2) (gt ps e.Task.Prog)) (gt ps e.Task.Prog) := by rw [b6]; rfl
        rw [hprog, hran, hl', hleft]
        by_cases h9 : (insN e.Task (gt ps e.Task.Prog)).Op = 9
        · right
          refine ⟨by omega, .inr ⟨by rw [hlast]; exact k, by rw [hlast, ← b3]; exact h9⟩⟩
        · left
          have hpos : leftV e.Task (gt ps e.Task.Prog) ≥ 1 := by
            apply Classical.byContradiction
            intro hn
            have := left_zero (t := Tk.to e.Task 2) u.fit hnum.2 (by rw [left_to]; omega)
            rw [insN_to] at this
            rw [this] at h9; exact h9 rfl
          rw [if_pos hpos]
          refine ⟨by omega, ?_⟩
          have := doT_isX (t := Tk.to e.Task 2) u.fit hnum.2 (by rw [insN_to]; exact h9)
          rw [b6]; exact this
    · have hprog : e'.Task.Prog = e.Task.Prog := by rw [b6]; rfl
      refine ⟨hg', by rw [hprog, b6, to_to]; exact u.fit, ?_, fun h => by rw [hlast] at h; omega⟩
      rw [hprog, b6]
      rcases u.num with h | h
      · exact .inl h
      · rcases h.2 with h7 | h9
        · omega
        · exact absurd h9.2 b5
    · have hprog : e'.Task.Prog = e.Task.Prog := by rw [b6]; rfl
      refine ⟨hg', by rw [hprog, b6, to_to]; exact u.fit, ?_, fun h => by rw [hlast] at h; omega⟩
      rw [hprog, b6]
      rcases u.num with h | h
      · exact .inl h
      · rcases h.2 with h7 | h9
        · omega
        · have := u.did h9.1
          omega
    · have hprog : e'.Task.Prog = e.Task.Prog := by rw [b6]; rfl
      refine ⟨hg', by rw [hprog, b6, to_to]; exact u.fit, .inr ⟨?_, .inl (by rw [b6]; rfl)⟩, fun h => by rw [hlast] at h; omega⟩
      rw [hprog, b6]; exact hun
    · have hprog : e'.Task.Prog = e.Task.Prog := by rw [b6]; rfl
      refine ⟨hg', by rw [hprog, b6, to_to]; exact u.fit, .inr ⟨?_, .inl (by rw [b6]; rfl)⟩, fun h => by rw [hlast] at h; omega⟩
      rw [hprog, b6]; exact hun
theorem ends_inner {own : List api_Event} {e : trace_seen} (s : Seen own e) (hl : own.length ≤ 65536) (T : List api_Task) (v : Nat) (hv : v < T.length) (hv2 : T.length ≤ 65536) (ht : T[v] = e.Task) : ∀ (k i : Nat), i + k = own.length → whileO (go_ravellaw18_TraceEnds_s7 T (v : Int) own) (i : Int) = some (.inl ((v + 1 : Nat) : Int))
  | 0, i, h => by
    refine whileO_inr ?_
    rw [go_ravellaw18_TraceEnds_s7, if_neg (by simp; omega), w64_nat (by omega)]; rfl
  | k + 1, i, h => by
    have hi : i < own.length := by omega
    rw [← ends_inner s hl T v hv hv2 ht k (i + 1) (by omega)]
    refine whileO_inl ?_
    have hw : IntKind.i64.wrap ((own.length : Int) - 1) = ((own.length - 1 : Nat) : Int) := by rw [w64_id (by omega) (by omega)]; omega
    obtain ⟨l0, l1⟩ := s.last
    rw [go_ravellaw18_TraceEnds_s7, if_pos (by simpa using hi), if_pos (by omega), gt_nat hi, gt_nat hv, ht, hw]
    have h1 : ¬ (own[i].Kind = 1 ∧ 0 < i) := fun h => by
      have := s.adj (i - 1) (by omega)
      simp only [show i - 1 + 1 = i by omega] at this
      exact this.2.2.2.2 h.1
    by_cases hlast : i = own.length - 1
    · subst hlast
      rw [l1] at h1 ⊢
      have hov := s.ov
      rw [if_neg (by simp; intro a; omega), if_neg, w64_nat (by omega)]
      · rfl
      · simp only [beq_self_eq_true, Bool.true_and, Bool.not_eq_true', Bool.not_eq_true, Bool.not_eq_false]
        rw [beq_iff_eq, Bool.eq_iff_iff]
        simp only [Bool.or_eq_true, beq_iff_eq]
        exact hov.symm
    · have := s.adj i (by omega)
      rw [if_neg (by simp; omega), if_neg (by simp; intro a; omega), w64_nat (by omega)]; rfl
theorem cnt_born (l : List api_Event) : cntL l 1 = (bornL l).length := by unfold cntL bornL; rw [List.length_map]
theorem traceEnds_true {ps : List (List api_Instr)} {l : List api_Event} (hn : ps.length ≤ 9223372036854775807) (ha : ∀ p ∈ ps, ∀ x ∈ p, i64ok x.A) (hl : l.length ≤ 9223372036854775807) : go_ravellaw18_TraceEnds ps l = some true := by
  unfold go_ravellaw18_TraceEnds
  obtain ⟨r, h1, h2⟩ := few_poks hn ha
  rw [tlive_eq, h1]
  simp only [Option.bind_some]
  cases r with
  | false => rfl
  | true =>
    obtain ⟨hp, _, _⟩ := h2 rfl
    by_cases h100 : l.length ≤ 100
    · have ht := tkR_len (ps := ps) l
      rw [if_neg (by simp; omega), ttasks_eq hp, Option.bind_some]
      unfold tkR at ht ⊢
      cases hca : ckAll ps with
      | false => rfl
      | true =>
        rw [if_pos ⟨hca, by omega⟩] at ht
        rw [if_pos (show true = true ∧ l.length ≤ 65536 from ⟨rfl, by omega⟩)]
        by_cases hall : runN ps [] l = l.length
        · rw [if_pos hall] at ht ⊢
          simp only at ht ⊢
          rw [if_neg (by simp), count_eq (by omega), Option.bind_some]
          have hTl : (tasksM (runM ps [] l) (bornL l)).length = cntL l 1 := by unfold tasksM; rw [List.length_map, cnt_born]
          rw [if_neg (by simp [hTl])]
          generalize hT : tasksM (runM ps [] l) (bornL l) = T at ht ⊢
          have loop : ∀ (k i : Nat), i + k = T.length → whileO (go_ravellaw18_TraceEnds_s5 ps l true T) (i : Int) = some true := by
            intro k
            induction k with
            | zero =>
              intro i h
              refine whileO_inr ?_
              rw [go_ravellaw18_TraceEnds_s5, if_neg (by simp; omega)]; rfl
            | succ k ih =>
              intro i h
              have hi : i < T.length := by omega
              rw [← ih (i + 1) (by omega)]
              obtain ⟨e, e1, e2, e3⟩ := tasks_at hall (i := i) (by rw [hT]; exact hi)
              simp only [hT] at e1
              have hol := ofL_le l e.Task.Id
              have hu := units_all hca e2
              have hun := units_of hu
              obtain ⟨f0, f1, f2⟩ := e3.first
              have hpm := gt_in hu.gd
              have hpk := (hp.2 _ hpm).2
              have hck := ckAll_chkP hca hpm
              obtain ⟨k1, k2, k3⟩ := chkP_parts hck
              have hub := un_bounds k3 k2
              have hne : ofL l e.Task.Id ≠ [] := fun h => by rw [h] at f0; simp at f0
              refine whileO_inl ?_
              rw [go_ravellaw18_TraceEnds_s5, if_pos (by simpa using hi), if_pos (by omega), gt_nat hi, e1, tof_eq (by omega), Option.bind_some, if_neg (by simpa using hne), if_pos (by omega)]
              have hg0 : gt (ofL l e.Task.Id) 0 = (ofL l e.Task.Id)[0] := gt_nat f0
              rw [hg0, f1]
              unfold go_ravellaw18_TraceEnds_j6
              have gd1 := hu.gd.1
              have gd2 := hu.gd.2
              have hran := e3.ran
              rw [gt_nat hi, e1, if_neg (by simp; omega), if_pos (by omega), units_eq hpk, hck, Option.bind_some, count_eq (by omega)]
              simp only [if_true, Option.bind_some]
              rw [w64_id (by omega) (by omega), if_neg (by simp; omega)]
              exact ends_inner e3 (by omega) T i hi (by omega) e1 _ 0 (Nat.zero_add _)
          exact loop T.length 0 (by omega)
        · rw [if_neg hall]; rfl
    · rw [if_pos (by simp; omega)]

end Go.Proofs.YtpkegoikocfchaaDoor
