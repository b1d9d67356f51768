/- Helper lemmas for the claim's theorem: an abstract machine over the model, proved sound; no condition beyond each lemma's own. -/
import Derived.Test.YtdlpecjbafadkaaL04h
set_option linter.unusedVariables false
set_option linter.unusedSimpArgs false
set_option linter.unnecessarySimpa false
set_option linter.unusedSectionVars false
/- Plain laws on the printed functions. -/
namespace Go.Proofs.Ytdlpecjbafadkaa
open Go Go.AM
set_option maxRecDepth 100000
set_option maxHeartbeats 1000000
set_option linter.unusedVariables false
set_option linter.unusedSimpArgs false
theorem decI_ok : ∀ (n : Nat) {b : List Int}, b.length = 4 * n → (∀ x ∈ b, u8ok x) → ∀ x ∈ decI b, i64ok x.A
  | 0, b, h, _ => by rw [List.eq_nil_of_length_eq_zero (by omega : b.length = 0)]; intro x hx; cases hx
  | n + 1, b, h, hb => by
    match b, h, hb with
    | x :: y :: z :: w :: r, h, hb =>
      have h1 := hb y (by simp)
      have h2 := hb z (by simp)
      unfold u8ok at h1 h2
      intro q hq
      rw [decI] at hq
      rcases List.mem_cons.1 hq with rfl | hq
      · constructor <;> simp only <;> omega
      · exact decI_ok n (by simp at h; omega) (fun q hq => hb q (by simp [hq])) q hq
def fin04 (acc : List (List api_Instr)) : Option (List (List api_Instr)) → List (List api_Instr) × Int
  | none => ([], 2)
  | some l => if ckAll (acc ++ l) then (acc ++ l, 0) else ([], 2)
theorem fin04_nil (acc : List (List api_Instr)) : fin04 acc (some []) = if ckAll acc then (acc, 0) else ([], 2) := by simp [fin04]
theorem fin04_map (acc : List (List api_Instr)) (p : List api_Instr) (o : Option (List (List api_Instr))) : fin04 acc (o.map (p :: ·)) = fin04 (acc ++ [p]) o := by
  cases o with
  | none => rfl
  | some l => simp [fin04]
theorem rd_fin (c : Int) (r : List Int) : rd (c :: r) = fin04 [] (rdP c.toNat r) := by
  rw [rd]
  cases rdP c.toNat r <;> rfl
def accOk (acc : List (List api_Instr)) : Prop := ∀ p ∈ acc, p.length ≤ 255 ∧ ∀ x ∈ p, i64ok x.A
theorem accOk.poks {acc : List (List api_Instr)} (h : accOk acc) (hl : acc.length ≤ 255) : poks acc :=
  ⟨by omega, fun p hp => ⟨by have := (h p hp).1; omega, by have := (h p hp).1; omega, (h p hp).2⟩⟩
theorem accOk.add {acc : List (List api_Instr)} (h : accOk acc) {w : List Int} {c : Nat} (hc : c ≤ 255) (hw : w.length = 4 * c) (hb : ∀ x ∈ w, u8ok x) : accOk (acc ++ [decI w]) := fun p hp => by
  rcases List.mem_append.1 hp with hp | hp
  · exact h p hp
  · rw [List.mem_singleton] at hp
    subst hp
    exact ⟨by rw [decI_len c hw]; exact hc, decI_ok c hw hb⟩
theorem read_loop {b : List Int} {c0 : Nat} (h0 : gt b 0 = (c0 : Int)) (hc0 : c0 ≤ 255) : ∀ (m i : Nat) (v : List Int) (acc : List (List api_Instr)), i + m = c0 → (∀ x ∈ v, u8ok x) → v.length ≤ 100000 → accOk acc → acc.length = i →
    whileO (go_code_Read_s12 b) (v, acc, (i : Int)) = some (fin04 acc (rdP m v))
  | 0, i, v, acc, h, hv, hl, ha, hlen => by
    refine whileO_inr ?_
    rw [go_code_Read_s12, h0, w64_id (by omega) (by omega), if_neg (by simp <;> omega)]
    cases v with
    | nil =>
      rw [if_neg (by simp), checkAll_eq (ha.poks (by omega)), Option.bind_some]
      show _ = some (Sum.inr (fin04 acc (some [])))
      rw [fin04_nil]
      cases ckAll acc <;> rfl
    | cons x r => rw [if_pos (by simp)]; rfl
  | m + 1, i, v, acc, h, hv, hl, ha, hlen => by
    cases v with
    | nil =>
      refine whileO_inr ?_
      rw [go_code_Read_s12, h0, w64_id (by omega) (by omega), if_pos (by simp <;> omega), if_pos (by simp)]; rfl
    | cons x r =>
      have hx := hv x (by simp)
      unfold u8ok at hx
      obtain ⟨c, rfl⟩ : ∃ c : Nat, x = (c : Int) := ⟨x.toNat, by omega⟩
      have hg : gt ((c : Int) :: r) 0 = (c : Int) := rfl
      have hs : (sub ((c : Int) :: r) (1 : Int) (((c : Int) :: r).length : Int)).length = r.length := by rw [subG_drop]; rfl
      have hw4 : IntKind.i64.wrap (4 * (c : Int)) = ((4 * c : Nat) : Int) := by rw [w64_id (by omega) (by omega)]; omega
      have hr : r.length ≤ 99999 := by simp at hl; omega
      have key : go_code_Read_s12 b ((c : Int) :: r, acc, (i : Int)) = if r.length < 4 * c then some (.inr ([], 2)) else nextO (r.drop (4 * c), acc ++ [decI (r.take (4 * c))], ((i + 1 : Nat) : Int)) := by
        rw [go_code_Read_s12, h0, w64_id (n := (c0 : Int)) (by omega) (by omega), if_pos (by simp <;> omega), if_neg (by simp <;> omega), if_pos (by simp <;> omega), if_pos (by simp <;> omega), hg, w64_id (n := (c : Int)) (by omega) (by omega), hs, hw4]
        by_cases hn : r.length < 4 * c
        · rw [if_pos (by simp <;> omega), if_pos hn]; rfl
        · rw [if_neg (by simp <;> omega), if_neg hn, if_pos (by omega), read_inner (c := c) hv hl (by omega) (by omega) hg (by omega) (by simp <;> omega), Nat.add_comm 1 (4 * c)]; rfl
      rw [rdP, Int.toNat_natCast]
      by_cases hn : r.length < 4 * c
      · rw [if_pos hn] at key
        rw [if_pos hn, whileO_inr key]; rfl
      · rw [if_neg hn] at key
        rw [if_neg hn, whileO_inl key, fin04_map]
        exact read_loop h0 hc0 m (i + 1) _ _ (by omega) (fun y hy => hv y (List.mem_cons_of_mem _ (List.mem_of_mem_drop hy))) (by simp <;> omega) (ha.add (c := c) (by omega) (by simp <;> omega) (fun y hy => hv y (List.mem_cons_of_mem _ (List.mem_of_mem_take hy)))) (by simp <;> omega)
theorem read_eq {b : List Int} (hb : ∀ x ∈ b, u8ok x) (hl : b.length ≤ 100000) : go_code_Read b = some (rd b) := by
  unfold go_code_Read
  cases b with
  | nil => rfl
  | cons x r =>
    have hx := hb x (by simp)
    unfold u8ok at hx
    obtain ⟨c, rfl⟩ : ∃ c : Nat, x = (c : Int) := ⟨x.toNat, by omega⟩
    rw [if_neg (by simp <;> omega), if_pos (by simp <;> omega), if_pos (by simp <;> omega), subG_drop, rd_fin]
    exact read_loop (c0 := c) rfl (by omega) c 0 r [] (by omega) (fun y hy => hb y (List.mem_cons_of_mem _ hy)) (by simp at hl; omega) (fun p hp => by cases hp) rfl
theorem rd_poks {b : List Int} (hb : ∀ x ∈ b, u8ok x) {l : List (List api_Instr)} (h : rd b = (l, 0)) : ∃ c r, b = c :: r ∧ rdP c.toNat r = some l ∧ ckAll l = true := by
  cases b with
  | nil => cases h
  | cons c r =>
    rw [rd] at h
    cases hr : rdP c.toNat r with
    | none => rw [hr] at h; cases h
    | some q =>
      rw [hr] at h
      simp only at h
      split at h
      · rename_i hc
        cases h
        exact ⟨c, r, rfl, hr, hc⟩
      · cases h
theorem ck_poks {l : List (List api_Instr)} (hc : ckAll l = true) : poks l := by
  obtain ⟨h1, h2, h3⟩ := ck_parts hc
  refine ⟨by omega, fun p hp => ⟨by have := (h3 p hp).1; omega, by have := (h3 p hp).1; omega, fun x hx => ?_⟩⟩
  have := may_byte ((h3 p hp).2 x hx)
  constructor <;> omega
theorem beq_self (x : api_Instr) : api_Instr.beq x x = true := by simp [api_Instr.beq]
theorem one_self {a : List api_Instr} (ha : a.length ≤ 1000000) : go_ravelref04_SameOne a a = some true := by
  unfold go_ravelref04_SameOne
  rw [if_neg (by simp)]
  have hrun := whileO_run (step := go_ravelref04_SameOne_s1 a a) (fun j => (j : Int)) a.length (fun j hj => by
    rw [go_ravelref04_SameOne_s1, if_pos (by simpa using hj), if_pos (pos_int hj), if_pos (pos_int hj), beq_self, if_neg (by simp), w64_nat (by omega)]; rfl)
  rw [show (0 : Int) = ((0 : Nat) : Int) from rfl, hrun]
  refine whileO_inr ?_
  rw [go_ravelref04_SameOne_s1, if_neg (by simp)]; rfl
theorem same_self {a : List (List api_Instr)} (ha : poks a) : go_ravelref04_Same a a = some true := by
  unfold go_ravelref04_Same
  rw [if_neg (by simp)]
  have hl := ha.1
  have hrun := whileO_run (step := go_ravelref04_Same_s1 a a) (fun j => (j : Int)) a.length (fun j hj => by
    rw [go_ravelref04_Same_s1, if_pos (by simpa using hj), if_pos (pos_int hj), if_pos (pos_int hj), gt_nat hj, one_self (ha.2 _ (List.getElem_mem hj)).1, Option.bind_some, if_neg (by simp), w64_nat (by omega)]; rfl)
  rw [show (0 : Int) = ((0 : Nat) : Int) from rfl, hrun]
  refine whileO_inr ?_
  rw [go_ravelref04_Same_s1, if_neg (by simp)]; rfl
theorem rd_ok {b : List Int} (hb : ∀ x ∈ b, u8ok x) : poks (rd b).1 ∧ ((rd b).2 ≠ 0 → (rd b).1 = []) := by
  cases b with
  | nil => exact ⟨⟨by decide, fun p hp => by cases hp⟩, fun _ => rfl⟩
  | cons c r =>
    rw [rd]
    cases hr : rdP c.toNat r with
    | none => exact ⟨⟨by decide, fun p hp => by cases hp⟩, fun _ => rfl⟩
    | some q =>
      simp only
      split
      · rename_i hc
        exact ⟨ck_poks hc, fun h => absurd rfl h⟩
      · exact ⟨⟨by decide, fun p hp => by cases hp⟩, fun _ => rfl⟩
theorem back_j1 {l : List (List api_Instr)} (hp : poks l) : go_ravellaw04_CodeBack_j1 l true = some true := by
  unfold go_ravellaw04_CodeBack_j1
  rw [write_eq hp, Option.bind_some]
  cases hc : ckAll l with
  | false =>
    rw [if_neg (by simp)]
    simp only
    rw [if_pos (by decide), if_pos (by decide), checkAll_eq hp, hc]; rfl
  | true =>
    obtain ⟨h1, h2, h3⟩ := ck_parts hc
    have hu := bytes_encL hc
    have hlen := encL_len (l := l) (fun p hp => (h3 p hp).1.2)
    have hel : (encL l).length = (l.flatMap encP).length + 1 := rfl
    have hrd : rd (encL l) = (l, 0) := by
      unfold encL
      rw [rd, Int.toNat_natCast, rdP_enc]
      simp only [hc, if_true]
    have hne : l.flatMap encP ≠ [] := by
      cases l with
      | nil => simp at h1
      | cons p r => rw [List.flatMap_cons]; unfold encP; simp
    have hcut : rd (sub (encL l) 0 (((l.flatMap encP).length : Nat) : Int)) = ([], 2) := by
      rw [subG_take, Int.toNat_natCast]
      have : (encL l).take (l.flatMap encP).length = (l.length : Int) :: (l.flatMap encP).dropLast := by
        unfold encL
        obtain ⟨x, y, e⟩ := List.exists_cons_of_ne_nil hne
        rw [e, List.length_cons, List.take_succ_cons, List.dropLast_eq_take]; rfl
      rw [this, rd, Int.toNat_natCast, rdP_cut (rdP_enc l) hne]
    have hext : rd (([] ++ encL l) ++ [0]) = ([], 2) := by
      rw [List.nil_append]
      unfold encL
      rw [List.cons_append, rd, Int.toNat_natCast, rdP_ext _ (rdP_enc l) (by simp)]
    have hw : IntKind.i64.wrap (((encL l).length : Int) - 1) = (((l.flatMap encP).length : Nat) : Int) := by
      rw [w64_id (by omega) (by omega)]; omega
    have hif : (if 0 > (IntKind.i64.wrap (((encL l).length : Int) - 1)) then 0 else IntKind.i64.wrap (((encL l).length : Int) - 1)) = (((l.flatMap encP).length : Nat) : Int) := by
      rw [hw, if_neg (by omega)]
    rw [if_pos rfl]
    simp only
    rw [if_neg (by simp), read_eq hu (by omega), hrd, Option.bind_some]
    simp only
    rw [hif, if_pos (by omega), read_eq (fun x hx => hu x (by rw [subG_take] at hx; exact List.mem_of_mem_take hx)) (by rw [subG_take]; simp; omega), hcut, Option.bind_some]
    simp only
    rw [if_pos (by unfold few; simp; omega), if_pos (by unfold few; simp; omega), read_eq (fun x hx => by rw [List.nil_append] at hx; rcases List.mem_append.1 hx with hx | hx; exact hu x hx; (rw [List.mem_singleton] at hx; subst hx; unfold u8ok; omega)) (by simp <;> omega), hext, Option.bind_some]
    simp only
    rw [if_pos (by decide), progs_eq, same_self hp]; rfl
theorem codeBack_true {l : List (List api_Instr)} {b : List Int} (hl : l.length ≤ 9223372036854775807) (ha : ∀ p ∈ l, ∀ x ∈ p, i64ok x.A) (hb : ∀ x ∈ b, u8ok x) : go_ravellaw04_CodeBack l b = some true := by
  unfold go_ravellaw04_CodeBack
  obtain ⟨r, h1, h2⟩ := few_poks hl ha
  rw [live_eq, h1]
  simp only [Option.bind_some]
  split
  · rfl
  · rename_i hg
    cases r with
    | false => simp at hg
    | true =>
      obtain ⟨hp, _, _⟩ := h2 rfl
      have hbl : b.length ≤ 100000 := by simp at hg; omega
      rw [read_eq hb hbl]
      simp only [Option.bind_some]
      split
      · rename_i he
        obtain ⟨c, q, hbq, hr, hc⟩ := rd_poks hb (l := (rd b).1) (by rw [← beq_iff_eq.1 he])
        have hbc := hb c (by rw [hbq]; simp)
        unfold u8ok at hbc
        have hback : encL (rd b).1 = b := by
          unfold encL
          rw [rdP_len _ hr, enc_rdP _ (fun x hx => hb x (by rw [hbq]; exact List.mem_cons_of_mem _ hx)) hr, show ((c.toNat : Nat) : Int) = c by omega, ← hbq]
        rw [write_eq (rd_ok hb).1, hc, Option.bind_some, if_pos rfl]
        simp only
        rw [hback, if_neg (by simp), checkAll_eq (rd_ok hb).1, hc, Option.bind_some, if_neg (by simp)]
        exact back_j1 hp
      · exact back_j1 hp

end Go.Proofs.Ytdlpecjbafadkaa
