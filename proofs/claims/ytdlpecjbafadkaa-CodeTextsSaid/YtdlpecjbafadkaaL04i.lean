/- Helper lemmas for the claim's theorem: an abstract machine over the model, proved sound; no condition beyond each lemma's own. -/
import Derived.Test.YtdlpecjbafadkaaL04h
set_option linter.unusedVariables false
set_option linter.unusedSimpArgs false
set_option linter.unnecessarySimpa false
set_option linter.unusedSectionVars false
/- Plain laws on the printed functions. -/
namespace Go.Proofs.Ytdlpecjbafadkaa
open Go Go.AM
set_option maxRecDepth 100000
set_option maxHeartbeats 1000000
set_option linter.unusedVariables false
set_option linter.unusedSimpArgs false
theorem decI_ok : ∀ (n : Nat) {b : List Int}, b.length = 4 * n → (∀ x ∈ b, u8ok x) → ∀ x ∈ decI b, i64ok x.A
  | 0, b, h, _ => by rw [List.eq_nil_of_length_eq_zero (by omega : b.length = 0)]; intro x hx; cases hx
  | n + 1, b, h, hb => by
    match b, h, hb with
    | x :: y :: z :: w :: r, h, hb =>
      have h1 := hb y (by simp)
      have h2 := hb z (by simp)
      unfold u8ok at h1 h2
      intro q hq
      rw [decI] at hq
      rcases List.mem_cons.1 hq with rfl | hq
      · constructor <;> simp only <;> omega
      · exact decI_ok n (by simp at h; omega) (fun q hq => hb q (by simp [hq])) q hq
def fin04 (acc : List (List api_Instr)) : Option (List (List api_Instr)) → List (List api_Instr) × Int
  | none => ([], 2)
  | some l => if ckAll (acc ++ l) then (acc ++ l, 0) else ([], 2)
theorem fin04_nil (acc : List (List api_Instr)) : fin04 acc (some []) = if ckAll acc then (acc, 0) else ([], 2) := by simp [fin04]
theorem fin04_map (acc : List (List api_Instr)) (p : List api_Instr) (o : Option (List (List api_Instr))) : fin04 acc (o.map (p :: ·)) = fin04 (acc ++ [p]) o := by
  cases o with
  | none => rfl
  | some l => simp [fin04]
theorem rd_fin (c : Int) (r : List Int) : rd (c :: r) = fin04 [] (rdP c.toNat r) := by
  rw [rd]
  cases rdP c.toNat r <;> rfl
def accOk (acc : List (List api_Instr)) : Prop := ∀ p ∈ acc, p.length ≤ 255 ∧ ∀ x ∈ p, i64ok x.A
theorem accOk.poks {acc : List (List api_Instr)} (h : accOk acc) (hl : acc.length ≤ 255) : poks acc :=
  ⟨by omega, fun p hp => ⟨by have := (h p hp).1; omega, by have := (h p hp).1; omega, (h p hp).2⟩⟩
theorem accOk.add {acc : List (List api_Instr)} (h : accOk acc) {w : List Int} {c : Nat} (hc : c ≤ 255) (hw : w.length = 4 * c) (hb : ∀ x ∈ w, u8ok x) : accOk (acc ++ [decI w]) := fun p hp => by
  rcases List.mem_append.1 hp with hp | hp
  · exact h p hp
  · rw [List.mem_singleton] at hp
    subst hp
    exact ⟨by rw [decI_len c hw]; exact hc, decI_ok c hw hb⟩
theorem read_loop {b : List Int} {c0 : Nat} (h0 : gt b 0 = (c0 : Int)) (hc0 : c0 ≤ 255) : ∀ (m i : Nat) (v : List Int) (acc : List (List api_Instr)), i + m = c0 → (∀ x ∈ v, u8ok x) → v.length ≤ 100000 → accOk acc → acc.length = i →
    whileO (go_code_Read_s12 b) (v, acc, (i : Int)) = some (fin04 acc (rdP m v))
  | 0, i, v, acc, h, hv, hl, ha, hlen => by
    refine whileO_inr ?_
    rw [go_code_Read_s12, h0, w64_id (by omega) (by omega), if_neg (by simp <;> omega)]
    cases v with
    | nil =>
      rw [if_neg (by simp), checkAll_eq (ha.poks (by omega)), Option.bind_some]
      show _ = some (Sum.inr (fin04 acc (some [])))
      rw [fin04_nil]
      cases ckAll acc <;> rfl
    | cons x r => rw [if_pos (by simp)]; rfl
  | m + 1, i, v, acc, h, hv, hl, ha, hlen => by
    cases v with
    | nil =>
      refine whileO_inr ?_
      rw [go_code_Read_s12, h0, w64_id (by omega) (by omega), if_pos (by simp <;> omega), if_pos (by simp)]; rfl
    | cons x r =>
      have hx := hv x (by simp)
      unfold u8ok at hx
      obtain ⟨c, rfl⟩ : ∃ c : Nat, x = (c : Int) := ⟨x.toNat, by omega⟩
      have hg : gt ((c : Int) :: r) 0 = (c : Int) := rfl
      have hs : (sub ((c : Int) :: r) (1 : Int) (((c : Int) :: r).length : Int)).length = r.length := by rw [subG_drop]; rfl
      have hw4 : IntKind.i64.wrap (4 * (c : Int)) = ((4 * c : Nat) : Int) := by rw [w64_id (by omega) (by omega)]; omega
      have hr : r.length ≤ 99999 := by simp at hl; omega
      have key : go_code_Read_s12 b ((c : Int) :: r, acc, (i : Int)) = if r.length < 4 * c then some (.inr ([], 2)) else nextO (r.drop (4 * c), acc ++ [decI (r.take (4 * c))], ((i + 1 : Nat) : Int)) := by
        rw [go_code_Read_s12, h0, w64_id (n := (c0 : Int)) (by omega) (by omega), if_pos (by simp <;> omega), if_neg (by simp <;> omega), if_pos (by simp <;> omega), if_pos (by simp <;> omega), hg, w64_id (n := (c : Int)) (by omega) (by omega), hs, hw4]
        by_cases hn : r.length < 4 * c
        · rw [if_pos (by simp <;> omega), if_pos hn]; rfl
        · rw [if_neg (by simp <;> omega), if_neg hn, if_pos (by omega), read_inner (c := c) hv hl (by omega) (by omega) hg (by omega) (by simp <;> omega), Nat.add_comm 1 (4 * c)]; rfl
      rw [rdP, Int.toNat_natCast]
      by_cases hn : r.length < 4 * c
      · rw [if_pos hn] at key
        rw [if_pos hn, whileO_inr key]; rfl
      · rw [if_neg hn] at key
        rw [if_neg hn, whileO_inl key, fin04_map]
        exact read_loop h0 hc0 m (i + 1) _ _ (by omega) (fun y hy => hv y (List.mem_cons_of_mem _ (List.mem_of_mem_drop hy))) (by simp <;> omega) (ha.add (c := c) (by omega) (by simp <;> omega) (fun y hy => hv y (List.mem_cons_of_mem _ (List.mem_of_mem_take hy)))) (by simp <;> omega)
theorem read_eq {b : List Int} (hb : ∀ x ∈ b, u8ok x) (hl : b.length ≤ 100000) : go_code_Read b = some (rd b) := by
  unfold go_code_Read
  cases b with
  | nil => rfl
  | cons x r =>
    have hx := hb x (by simp)
    unfold u8ok at hx
    obtain ⟨c, rfl⟩ : ∃ c : Nat, x = (c : Int) := ⟨x.toNat, by omega⟩
    rw [if_neg (by simp <;> omega), if_pos (by simp <;> omega), if_pos (by simp <;> omega), subG_drop, rd_fin]
    exact read_loop (c0 := c) rfl (by omega) c 0 r [] (by omega) (fun y hy => hb y (List.mem_cons_of_mem _ hy)) (by simp at hl; omega) (fun p hp => by cases hp) rfl
theorem rchunk_loop {w : List Int} (hl : w.length ≤ 100000) {n : Nat} (hn : w.length = 4 * n) {K : Type} {step : List api_Instr × Int → Option ((List api_Instr × Int) ⊕ K)} {fin : List api_Instr → Option K}
    (hs : ∀ (k : Nat) (o : List api_Instr) (hi : 4 * k + 4 ≤ w.length), o.length = k → step (o, (k : Int)) = nextO (o ++ [⟨w[4 * k], 256 * w[4 * k + 1] + w[4 * k + 2], w[4 * k + 3]⟩], ((k + 1 : Nat) : Int)))
    (h0 : ∀ o, step (o, (n : Int)) = inrO (fin o)) :
    ∀ (m k : Nat) (o : List api_Instr), k + m = n → o.length = k → whileO step (o, (k : Int)) = fin (o ++ decI (w.drop (4 * k)))
  | 0, k, o, h, ho => by
    have e : k = n := by omega
    subst e
    rw [← hn, List.drop_length, show decI [] = [] from rfl, List.append_nil]
    cases hf : fin o with
    | none => rw [whileO_none]; rw [h0, hf]; rfl
    | some r => rw [whileO_inr]; rw [h0, hf]; rfl
  | m + 1, k, o, h, ho => by
    have hi : 4 * k + 4 ≤ w.length := by omega
    rw [whileO_inl (by rw [hs k o hi ho]; rfl), rchunk_loop hl hn hs h0 m (k + 1) _ (by omega) (by simp <;> omega), drop4 hi, decI]
    rw [show 4 * (k + 1) = 4 * k + 4 by omega, List.append_assoc]; rfl
theorem rread_inner {b : List Int} {a : Nat} {l : List (List api_Instr)} {i : Nat} {c : Nat} (hb : ∀ x ∈ b, u8ok x) (h : b.length ≤ 100000) (hl : l.length ≤ 1000) (hi : i ≤ 1000) (hc : gt b (a : Int) = (c : Int)) (hc2 : c ≤ 255) (h4 : a + 1 + 4 * c ≤ b.length) :
    whileO (go_ravelref04_Read_s14 b (a : Int) l (i : Int)) ([], 0) = nextO (((a + 1 + 4 * c : Nat) : Int), l ++ [decI ((b.drop (a + 1)).take (4 * c))], ((i + 1 : Nat) : Int)) := by
  have hwl : ((b.drop (a + 1)).take (4 * c)).length = 4 * c := by simp; omega
  have := rchunk_loop (w := (b.drop (a + 1)).take (4 * c)) (by omega) (n := c) hwl (step := go_ravelref04_Read_s14 b (a : Int) l (i : Int)) (fin := fun o => nextO (((a + 1 + 4 * c : Nat) : Int), l ++ [o], ((i + 1 : Nat) : Int))) ?_ ?_ c 0 [] (by omega) rfl
  · rw [show ((0 : Nat) : Int) = 0 from rfl, Nat.mul_zero, List.drop_zero, List.nil_append] at this
    exact this
  · intro k o hk ho
    have hw1 : IntKind.i64.wrap ((IntKind.i64.wrap ((a : Int) + 1)) + (IntKind.i64.wrap (4 * (k : Int)))) = ((a + 1 + 4 * k : Nat) : Int) := by
      rw [w64_id (n := (a : Int) + 1) (by omega) (by omega), w64_id (n := 4 * (k : Int)) (by omega) (by omega), w64_id (by omega) (by omega)]; omega
    have hw2 : ∀ q : Nat, q ≤ 10 → IntKind.i64.wrap (((a + 1 + 4 * k : Nat) : Int) + (q : Int)) = ((a + 1 + 4 * k + q : Nat) : Int) := fun q hq => by
      rw [w64_id (by omega) (by omega)]; omega
    have mem : ∀ j (hj : j < b.length), u8ok b[j] := fun j hj => hb b[j] (List.getElem_mem hj)
    have wm : ∀ j (hj : j < b.length), IntKind.i64.wrap b[j] = b[j] := fun j hj => by
      have := mem j hj
      unfold u8ok at this
      exact w64_id (by omega) (by omega)
    have e : ∀ j, 4 * k + j < 4 * c → (hh : 4 * k + j < ((b.drop (a + 1)).take (4 * c)).length) → (hg : a + 1 + 4 * k + j < b.length) → ((b.drop (a + 1)).take (4 * c))[4 * k + j] = b[a + 1 + 4 * k + j] := fun j h1 hh hg => by
      rw [List.getElem_take, List.getElem_drop]; congr 1; omega
    have hA : IntKind.i64.wrap (256 * b[a + 1 + 4 * k + 1]) = 256 * b[a + 1 + 4 * k + 1] := by
      have := mem (a + 1 + 4 * k + 1) (by omega)
      unfold u8ok at this
      exact w64_id (by omega) (by omega)
    have hB : IntKind.i64.wrap (256 * b[a + 1 + 4 * k + 1] + b[a + 1 + 4 * k + 2]) = 256 * b[a + 1 + 4 * k + 1] + b[a + 1 + 4 * k + 2] := by
      have h1 := mem (a + 1 + 4 * k + 1) (by omega)
      have h2 := mem (a + 1 + 4 * k + 2) (by omega)
      unfold u8ok at h1 h2
      exact w64_id (by omega) (by omega)
    have f1 := hw2 1 (by omega)
    have f2 := hw2 2 (by omega)
    have f3 := hw2 3 (by omega)
    have e0 := e 0 (by omega) (by omega) (by omega)
    have e1 := e 1 (by omega) (by omega) (by omega)
    have e2 := e 2 (by omega) (by omega) (by omega)
    have e3 := e 3 (by omega) (by omega) (by omega)
    simp only [Nat.add_zero] at e0
    rw [show ((1 : Nat) : Int) = 1 from rfl] at f1
    rw [show ((2 : Nat) : Int) = 2 from rfl] at f2
    rw [show ((3 : Nat) : Int) = 3 from rfl] at f3
    rw [e0, e1, e2, e3, go_ravelref04_Read_s14, hc, w64_id (n := (c : Int)) (by omega) (by omega), if_pos (by simp <;> omega), hw1, f1, f2, f3, if_pos (by omega), if_pos (by omega), if_pos (by omega), if_pos (by omega)]
    rw [gt_nat (by omega), gt_nat (by omega), gt_nat (by omega), gt_nat (by omega), wm, wm, wm, wm, hA, hB, if_pos (by unfold few; simp; omega), w64_nat (by omega)]
  · intro o
    rw [go_ravelref04_Read_s14, hc, w64_id (n := (c : Int)) (by omega) (by omega), if_neg (by simp), if_pos (by omega), if_pos (by unfold few; simp; omega), w64_nat (by omega), w64_id (n := 4 * (c : Int)) (by omega) (by omega), w64_id (n := 1 + 4 * (c : Int)) (by omega) (by omega), w64_id (by omega) (by omega)]
    rw [show (a : Int) + (1 + 4 * (c : Int)) = ((a + 1 + 4 * c : Nat) : Int) by omega]
theorem rread_loop {b : List Int} {c0 : Nat} (h0 : gt b 0 = (c0 : Int)) (hc0 : c0 ≤ 255) (hb : ∀ x ∈ b, u8ok x) (hl : b.length ≤ 100000) : ∀ (m i a : Nat) (acc : List (List api_Instr)), i + m = c0 → a ≤ b.length → accOk acc → acc.length = i →
    whileO (go_ravelref04_Read_s12 b) ((a : Int), acc, (i : Int)) = some (fin04 acc (rdP m (b.drop a)))
  | 0, i, a, acc, h, hab, ha, hlen => by
    refine whileO_inr ?_
    rw [go_ravelref04_Read_s12, h0, w64_id (by omega) (by omega), if_neg (by simp <;> omega)]
    by_cases e : a = b.length
    · rw [if_neg (by simp [e]), rcheckAll_eq (ha.poks (by omega)), Option.bind_some, e, List.drop_length]
      show _ = some (Sum.inr (fin04 acc (some [])))
      rw [fin04_nil]
      cases ckAll acc <;> rfl
    · rw [if_pos (by simp <;> omega), List.drop_eq_getElem_cons (by omega)]; rfl
  | m + 1, i, a, acc, h, hab, ha, hlen => by
    by_cases e : a = b.length
    · rw [e, List.drop_length]
      refine whileO_inr ?_
      rw [go_ravelref04_Read_s12, h0, w64_id (by omega) (by omega), if_pos (by simp <;> omega), if_pos (by simp)]; rfl
    · have hlt : a < b.length := by omega
      rw [List.drop_eq_getElem_cons hlt, rdP]
      have hx := hb b[a] (List.getElem_mem hlt)
      unfold u8ok at hx
      obtain ⟨c, hc⟩ : ∃ c : Nat, b[a] = (c : Int) := ⟨b[a].toNat, by omega⟩
      have hg : gt b (a : Int) = (c : Int) := by rw [gt_nat hlt, hc]
      have hdl : (b.drop (a + 1)).length = b.length - (a + 1) := by simp
      rw [hc, Int.toNat_natCast]
      have key : go_ravelref04_Read_s12 b ((a : Int), acc, (i : Int)) = if (b.drop (a + 1)).length < 4 * c then some (.inr ([], 2)) else nextO (((a + 1 + 4 * c : Nat) : Int), acc ++ [decI ((b.drop (a + 1)).take (4 * c))], ((i + 1 : Nat) : Int)) := by
        rw [go_ravelref04_Read_s12, h0, w64_id (n := (c0 : Int)) (by omega) (by omega), if_pos (by simp <;> omega), if_neg (by simp <;> omega), if_pos (by omega), hg, w64_id (n := (c : Int)) (by omega) (by omega), w64_id (n := (a : Int) + 1) (by omega) (by omega), w64_id (n := 4 * (c : Int)) (by omega) (by omega), w64_id (by omega) (by omega)]
        by_cases hn : (b.drop (a + 1)).length < 4 * c
        · rw [if_pos (by simp <;> omega), if_pos hn]; rfl
        · rw [if_neg (by simp <;> omega), if_neg hn, if_pos (by omega), rread_inner (c := c) hb hl (by omega) (by omega) hg (by omega) (by omega)]
      by_cases hn : (b.drop (a + 1)).length < 4 * c
      · rw [if_pos hn] at key
        rw [if_pos hn, whileO_inr key]; rfl
      · rw [if_neg hn] at key
        rw [if_neg hn, whileO_inl key, fin04_map, List.drop_drop]
        exact rread_loop h0 hc0 hb hl m (i + 1) _ _ (by omega) (by omega) (ha.add (c := c) (by omega) (by simp <;> omega) (fun y hy => hb y (List.mem_of_mem_drop (List.mem_of_mem_take hy)))) (by simp <;> omega)
theorem rread_eq {b : List Int} (hb : ∀ x ∈ b, u8ok x) (hl : b.length ≤ 100000) : go_ravelref04_Read b = some (rd b) := by
  unfold go_ravelref04_Read
  cases b with
  | nil => rfl
  | cons x r =>
    have hx := hb x (by simp)
    unfold u8ok at hx
    obtain ⟨c, rfl⟩ : ∃ c : Nat, x = (c : Int) := ⟨x.toNat, by omega⟩
    rw [if_neg (by simp <;> omega), if_pos (by simp <;> omega), rd_fin]
    exact rread_loop (c0 := c) (b := (c : Int) :: r) rfl (by omega) hb hl c 0 1 [] (by omega) (by simp) (fun p hp => by cases hp) rfl
theorem ck_poks {l : List (List api_Instr)} (hc : ckAll l = true) : poks l := by
  obtain ⟨h1, h2, h3⟩ := ck_parts hc
  refine ⟨by omega, fun p hp => ⟨by have := (h3 p hp).1; omega, by have := (h3 p hp).1; omega, fun x hx => ?_⟩⟩
  have := may_byte ((h3 p hp).2 x hx)
  constructor <;> omega
theorem beq_self (x : api_Instr) : api_Instr.beq x x = true := by simp [api_Instr.beq]
theorem one_self {a : List api_Instr} (ha : a.length ≤ 1000000) : go_ravelref04_SameOne a a = some true := by
  unfold go_ravelref04_SameOne
  rw [if_neg (by simp)]
  have hrun := whileO_run (step := go_ravelref04_SameOne_s1 a a) (fun j => (j : Int)) a.length (fun j hj => by
    rw [go_ravelref04_SameOne_s1, if_pos (by simpa using hj), if_pos (pos_int hj), if_pos (pos_int hj), beq_self, if_neg (by simp), w64_nat (by omega)]; rfl)
  rw [show (0 : Int) = ((0 : Nat) : Int) from rfl, hrun]
  refine whileO_inr ?_
  rw [go_ravelref04_SameOne_s1, if_neg (by simp)]; rfl
theorem same_self {a : List (List api_Instr)} (ha : poks a) : go_ravelref04_Same a a = some true := by
  unfold go_ravelref04_Same
  rw [if_neg (by simp)]
  have hl := ha.1
  have hrun := whileO_run (step := go_ravelref04_Same_s1 a a) (fun j => (j : Int)) a.length (fun j hj => by
    rw [go_ravelref04_Same_s1, if_pos (by simpa using hj), if_pos (pos_int hj), if_pos (pos_int hj), gt_nat hj, one_self (ha.2 _ (List.getElem_mem hj)).1, Option.bind_some, if_neg (by simp), w64_nat (by omega)]; rfl)
  rw [show (0 : Int) = ((0 : Nat) : Int) from rfl, hrun]
  refine whileO_inr ?_
  rw [go_ravelref04_Same_s1, if_neg (by simp)]; rfl
theorem rd_ok {b : List Int} (hb : ∀ x ∈ b, u8ok x) : poks (rd b).1 ∧ ((rd b).2 ≠ 0 → (rd b).1 = []) := by
  cases b with
  | nil => exact ⟨⟨by decide, fun p hp => by cases hp⟩, fun _ => rfl⟩
  | cons c r =>
    rw [rd]
    cases hr : rdP c.toNat r with
    | none => exact ⟨⟨by decide, fun p hp => by cases hp⟩, fun _ => rfl⟩
    | some q =>
      simp only
      split
      · rename_i hc
        exact ⟨ck_poks hc, fun h => absurd rfl h⟩
      · exact ⟨⟨by decide, fun p hp => by cases hp⟩, fun _ => rfl⟩
theorem codeTexts_true {l : List (List api_Instr)} {b : List Int} (hl : l.length ≤ 9223372036854775807) (ha : ∀ p ∈ l, ∀ x ∈ p, i64ok x.A) (hb : ∀ x ∈ b, u8ok x) : go_ravellaw04_CodeTexts l b = some true := by
  unfold go_ravellaw04_CodeTexts
  obtain ⟨r, h1, h2⟩ := few_poks hl ha
  rw [live_eq, h1]
  simp only [Option.bind_some]
  split
  · rfl
  · rename_i hg
    cases r with
    | false => simp at hg
    | true =>
      obtain ⟨hp, _, _⟩ := h2 rfl
      have hbl : b.length ≤ 100000 := by simp at hg; omega
      rw [write_eq hp, rwrite_eq hp, read_eq hb hbl, rread_eq hb hbl]
      simp only [Option.bind_some]
      have hs := same_self (rd_ok hb).1
      unfold go_ravellaw04_CodeTexts_j1
      simp only [beq_self_eq_true, Bool.and_self, if_true, hs, Option.bind_some]
end Go.Proofs.Ytdlpecjbafadkaa
