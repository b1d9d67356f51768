/- Helper lemmas for the claim's theorem: an abstract machine over the model, proved sound; no condition beyond each lemma's own. -/
import Derived.Test.YthhpnmfcmgdghaaL19c
set_option linter.unusedVariables false
set_option linter.unusedSimpArgs false
set_option linter.unnecessarySimpa false
set_option linter.unusedSectionVars false
/- Plain laws on the printed functions. -/
namespace Go.Proofs.Ythhpnmfcmgdghaa
open Go Go.AM
set_option maxRecDepth 100000
set_option maxHeartbeats 1000000
set_option linter.unusedVariables false
set_option linter.unusedSimpArgs false
/- ---- fairness: how late a worker is, and whether it comes in each window -/
def latW (pre : List api_Entry) (w : Int) : Nat := (pre.reverse.takeWhile (fun x => x.A != w)).length
theorem latW_snoc (pre : List api_Entry) (x : api_Entry) (w : Int) : latW (pre ++ [x]) w = if x.A = w then 0 else latW pre w + 1 := by
  unfold latW
  rw [List.reverse_append, List.reverse_singleton, List.singleton_append, List.takeWhile_cons]
  by_cases h : x.A = w
  · simp [h]
  · simp [h]
def LateR (W : Int) (pre : List api_Entry) (late : List Int) : Prop := late.length = W.toNat ∧ ∀ i : Nat, i < late.length → gt late (i : Int) = (latW pre (i : Int) : Int)
theorem lateR_nil {W : Int} : LateR W [] (zeros W) := ⟨by simp [zeros], fun i hi => by rw [gt_nat hi]; simp [zeros, latW]⟩
theorem lateR_snoc {W : Int} {pre : List api_Entry} {late : List Int} (h : LateR W pre late) {x : api_Entry} (h0 : 0 ≤ x.A) : LateR W (pre ++ [x]) (lat late x.A) := by
  refine ⟨by rw [lat_len]; exact h.1, fun i hi => ?_⟩
  rw [lat_len] at hi
  rw [lat_get h0 hi, latW_snoc, h.2 i hi]
  split <;> rfl
theorem lateR_any {W win : Int} {pre : List api_Entry} {late : List Int} (h : LateR W pre late) : late.any (fun y => decide (y ≥ win)) = false ↔ ∀ w : Nat, w < W.toNat → (latW pre (w : Int) : Int) < win := by
  rw [List.any_eq_false]
  constructor
  · intro k w hw
    have hl : w < late.length := by rw [h.1]; exact hw
    have := k late[w] (List.getElem_mem hl)
    rw [← h.2 w hl, gt_nat hl]
    simp at this; omega
  · intro k y hy
    obtain ⟨i, hi, rfl⟩ := List.getElem_of_mem hy
    have := k i (by rw [← h.1]; exact hi)
    rw [← h.2 i hi, gt_nat hi] at this
    simp; omega
def inR (W : Int) (r : List api_Entry) : Prop := ∀ x ∈ r, 0 ≤ x.A ∧ x.A < W
theorem goodF_iff {W win : Int} : ∀ (r pre : List api_Entry) (late : List Int) (n : Int), LateR W pre late → n = pre.length →
    (goodF W win r late n = true ↔ inR W r ∧ ∀ j : Nat, j < r.length → n + j + 1 ≥ win → ∀ w : Nat, w < W.toNat → (latW (pre ++ r.take (j + 1)) (w : Int) : Int) < win)
  | [], pre, late, n, _, _ => by simp [goodF, inR]
  | x :: r, pre, late, n, h, hn => by
    rw [goodF_cons]
    by_cases hx : 0 ≤ x.A ∧ x.A < W
    · have h' := lateR_snoc h hx.1
      have ih := goodF_iff (win := win) r (pre ++ [x]) (lat late x.A) (n + 1) h' (by simp; omega)
      rw [ih]
      have hany := lateR_any (win := win) h'
      constructor
      · rintro ⟨_, h2, h3, h4⟩
        refine ⟨fun y hy => ?_, fun j hj hw w hww => ?_⟩
        · rcases List.mem_cons.1 hy with rfl | hy
          · exact hx
          · exact h3 y hy
        · cases j with
          | zero =>
            have hd : decide (n + 1 ≥ win) = true := decide_eq_true (by simpa using hw)
            rw [hd, Bool.true_and] at h2
            simpa using hany.1 h2 w hww
          | succ j =>
            have := h4 j (by simpa using hj) (by push_cast at hw ⊢; omega) w hww
            simpa using this
      · rintro ⟨h3, h4⟩
        refine ⟨hx, ?_, fun y hy => h3 y (List.mem_cons_of_mem _ hy), fun j hj hw w hww => ?_⟩
        · by_cases hc : n + 1 ≥ win
          · rw [decide_eq_true hc, Bool.true_and]
            refine hany.2 fun w hww => ?_
            simpa using h4 0 (by simp) (by simpa using hc) w hww
          · rw [decide_eq_false hc, Bool.false_and]
        · have := h4 (j + 1) (by simpa using hj) (by push_cast; omega) w hww
          simpa using this
    · constructor
      · rintro ⟨h1, _⟩; exact absurd h1 hx
      · rintro ⟨h1, _⟩; exact absurd (h1 x (List.mem_cons_self ..)) hx
theorem take_lt {α : Type} (p : α → Bool) : ∀ (a b : List α), ((a ++ b).takeWhile p).length < a.length ↔ a.any (fun x => !p x) = true
  | [], b => by simp
  | x :: a, b => by
    rw [List.cons_append, List.takeWhile_cons, List.any_cons]
    cases h : p x with
    | true => simp [take_lt p a b]
    | false => simp
/-- A worker comes in a window. -/
def has (steps : List api_Entry) (win : Int) (from_ : Nat) (w : Int) : Bool := (sub steps (from_ : Int) ((from_ : Int) + win)).any (fun x => x.A == w)
theorem has_lat {steps : List api_Entry} {win : Int} {k : Nat} (hw : 1 ≤ win) (h : (k : Int) + win ≤ steps.length) (w : Int) : ((latW (steps.take (k + win.toNat)) w : Int) < win) ↔ has steps win k w = true := by
  have e : steps.take (k + win.toNat) = steps.take k ++ sub steps (k : Int) ((k : Int) + win) := by
    unfold sub
    rw [List.take_add, Int.toNat_natCast, show ((k : Int) + win).toNat - k = win.toNat by omega]
  have hl : (sub steps (k : Int) ((k : Int) + win)).length = win.toNat := by unfold sub; simp; omega
  unfold latW has
  rw [e, List.reverse_append]
  have := take_lt (fun x : api_Entry => x.A != w) (sub steps (k : Int) ((k : Int) + win)).reverse (steps.take k).reverse
  rw [List.length_reverse, hl] at this
  rw [List.any_reverse] at this
  have hn : (fun x : api_Entry => !(x.A != w)) = fun x => x.A == w := by funext x; simp [bne]
  rw [hn] at this
  rw [← this]
  omega
theorem good_has {W win : Int} (hw : 1 ≤ win) (steps : List api_Entry) : goodF W win steps (zeros W) 0 = true ↔ inR W steps ∧ ∀ k : Nat, (k : Int) + win ≤ steps.length → ∀ w : Nat, w < W.toNat → has steps win k (w : Int) = true := by
  rw [goodF_iff steps [] (zeros W) 0 lateR_nil rfl]
  refine and_congr_right fun _ => ⟨fun h k hk w hww => ?_, fun h j hj hjw w hww => ?_⟩
  · have := h (k + win.toNat - 1) (by omega) (by omega) w hww
    rw [List.nil_append, show k + win.toNat - 1 + 1 = k + win.toNat by omega] at this
    exact (has_lat hw hk _).1 this
  · have := h (j + 1 - win.toNat) (by omega) w hww
    rw [← has_lat hw (by omega), show j + 1 - win.toNat + win.toNat = j + 1 by omega] at this
    simpa using this
theorem r24 {win : Int} {steps : List api_Entry} {k w : Nat} (hl : steps.length ≤ 1000000) (hw : 1 ≤ win) (hk : (k : Int) + win ≤ steps.length) (hW : w < 1000) :
    whileO (go_ravelref19_Fair_s24 win steps (k : Int) (w : Int)) (false, 0) = if has steps win k (w : Int) = true then nextO (((w + 1 : Nat) : Int)) else inrO (inrO (some (false, 0))) := by
  have hkw : IntKind.i64.wrap ((k : Int) + win) = (k : Int) + win := w64_id (by omega) (by omega)
  have hsl : (sub steps (k : Int) ((k : Int) + win)).length ≤ 1000000 := by unfold sub; simp; omega
  have := whileO_list (step := go_ravelref19_Fair_s24 win steps (k : Int) (w : Int)) (sub steps (k : Int) ((k : Int) + win)) (fun i (v : Bool) => (v, (i : Int)))
    (fun r v => if (v || r.any (fun x => x.A == (w : Int))) = true then nextO (((w + 1 : Nat) : Int)) else inrO (inrO (some (false, 0)))) (fun _ _ => True) false trivial ?_ ?_
  · simpa [has] using this
  · intro v _
    rw [go_ravelref19_Fair_s24, hkw, if_neg (by simp), w64_nat (by omega)]
    cases v <;> rfl
  · intro i v hi _
    left
    refine ⟨v || (sub steps (k : Int) ((k : Int) + win))[i].A == (w : Int), ?_, trivial, by rw [List.any_cons, Bool.or_assoc]⟩
    rw [go_ravelref19_Fair_s24, hkw, if_pos (by simpa using hi), if_pos (pos_int hi), gt_nat hi, w64_nat (by omega)]
theorem r22 {W win : Int} {steps : List api_Entry} {k : Nat} (hl : steps.length ≤ 1000000) (hw : 1 ≤ win) (hk : (k : Int) + win ≤ steps.length) (hW : 1 ≤ W ∧ W ≤ 64) :
    whileO (go_ravelref19_Fair_s22 W win steps (k : Int)) 0 = if (List.range W.toNat).all (fun w => has steps win k (w : Int)) = true then nextO (steps, ((k + 1 : Nat) : Int)) else inrO (some (false, 0)) := by
  have hkw : IntKind.i64.wrap ((k : Int) + win) = (k : Int) + win := w64_id (by omega) (by omega)
  have := whileO_list (step := go_ravelref19_Fair_s22 W win steps (k : Int)) (List.range W.toNat) (fun i (_ : Unit) => (i : Int))
    (fun r _ => if r.all (fun w => has steps win k (w : Int)) = true then nextO (steps, ((k + 1 : Nat) : Int)) else inrO (some (false, 0))) (fun _ _ => True) () trivial ?_ ?_
  · exact this
  · intro _ _
    rw [go_ravelref19_Fair_s22, if_neg (by simp; omega), w64_nat (by omega)]; simp
  · intro i _ hi _
    have hi' : i < W.toNat := by simpa using hi
    have e : (List.range W.toNat)[i] = i := by simp
    have hs : go_ravelref19_Fair_s22 W win steps (k : Int) (i : Int) = if has steps win k (i : Int) = true then nextO (((i + 1 : Nat) : Int)) else inrO (inrO (some (false, 0))) := by
      rw [go_ravelref19_Fair_s22, if_pos (by simp; omega), hkw, if_pos (by omega)]
      exact r24 hl hw hk (by omega)
    rw [e]
    cases hh : has steps win k (i : Int) with
    | true =>
      left
      refine ⟨(), ?_, trivial, ?_⟩
      · rw [hs, hh]; rfl
      · rw [List.all_cons, hh, Bool.true_and]
    | false =>
      right
      rw [hs, hh, List.all_cons, hh]; rfl
theorem r17 {W win : Int} {steps : List api_Entry} (hl : steps.length ≤ 1000000) (hw : 1 ≤ win ∧ win ≤ 9223372036854775807) (hW : 1 ≤ W ∧ W ≤ 64) : ∀ (m k : Nat), (k : Int) + win + m > steps.length →
    ∃ b, whileO (go_ravelref19_Fair_s17 W win) (steps, (k : Int)) = some (b, 0) ∧ (b = true ↔ ∀ q : Nat, k ≤ q → (q : Int) + win ≤ steps.length → ∀ w : Nat, w < W.toNat → has steps win q (w : Int) = true)
  | 0, k, h => by
    refine ⟨true, ?_, by simp; intro q hq hq2; omega⟩
    refine whileO_inr ?_
    rw [go_ravelref19_Fair_s17, if_neg]
    · rfl
    · rw [w64_id (by omega) (by omega)]; simp; omega
  | m + 1, k, h => by
    by_cases hk : (k : Int) + win ≤ steps.length
    · have hs : go_ravelref19_Fair_s17 W win (steps, (k : Int)) = if (List.range W.toNat).all (fun w => has steps win k (w : Int)) = true then nextO (steps, ((k + 1 : Nat) : Int)) else inrO (some (false, 0)) := by
        rw [go_ravelref19_Fair_s17, if_pos (by rw [w64_id (by omega) (by omega)]; simp; omega)]
        exact r22 hl hw.1 hk hW
      cases ha : (List.range W.toNat).all (fun w => has steps win k (w : Int)) with
      | true =>
        rw [ha] at hs
        obtain ⟨b, h1, h2⟩ := r17 hl hw hW m (k + 1) (by push_cast; omega)
        refine ⟨b, by rw [whileO_inl (s' := (steps, ((k + 1 : Nat) : Int))) (by rw [hs]; rfl)]; exact h1, ?_⟩
        rw [h2]
        refine ⟨fun g q hq hq2 w hww => ?_, fun g q hq => g q (by omega)⟩
        by_cases e : q = k
        · subst e; exact List.all_eq_true.1 ha w (by simpa using hww)
        · exact g q (by omega) hq2 w hww
      | false =>
        rw [ha] at hs
        refine ⟨false, whileO_inr (by rw [hs]; rfl), ?_⟩
        simp only [Bool.false_eq_true, false_iff]
        intro g
        have : (List.range W.toNat).all (fun w => has steps win k (w : Int)) = true := List.all_eq_true.2 fun w hw' => g k (Nat.le_refl _) hk w (by simpa using hw')
        rw [ha] at this; cases this
    · refine ⟨true, ?_, by simp; intro q hq hq2; omega⟩
      refine whileO_inr ?_
      rw [go_ravelref19_Fair_s17, if_neg]
      · rfl
      · rw [w64_id (by omega) (by omega)]; simp; omega
theorem ronly_eq {l : List api_Entry} {k : Int} (hl : l.length ≤ 1000000) : go_ravelref19_Only l k = some (onl l k) := by
  rw [← only_eq hl]; rfl
theorem rfair_eq {l : List api_Entry} {W win : Int} (hl : l.length ≤ 1000000) (hW : 1 ≤ W ∧ W ≤ 64) (hw : 1 ≤ win ∧ win ≤ 9223372036854775807) : go_ravelref19_Fair l W win = some (goodF W win (onl l 0) (zeros W) 0, 0) := by
  have hlen := onl_len l 0
  unfold go_ravelref19_Fair go_ravelref19_in
  rw [if_neg (by simp; omega), ronly_eq hl, Option.bind_some]
  obtain ⟨b, h1, h2⟩ := r17 (W := W) (win := win) (steps := onl l 0) (by omega) hw hW ((onl l 0).length + 1) 0 (by omega)
  rw [whileO_seek (fun x : api_Entry => decide (x.A < 0) || decide (x.A ≥ W)) (onl l 0) (fun _ => some (false, 0)) (some (b, 0)) (by omega)]
  · rw [seek_any]
    cases ha : (onl l 0).any (fun x : api_Entry => decide (x.A < 0) || decide (x.A ≥ W)) with
    | true =>
      have : goodF W win (onl l 0) (zeros W) 0 = false := by
        cases hg : goodF W win (onl l 0) (zeros W) 0 with
        | false => rfl
        | true =>
          obtain ⟨x, hx, hb⟩ := List.any_eq_true.1 ha
          have := ((good_has hw.1 _).1 hg).1 x hx
          simp at hb; omega
      rw [this]; rfl
    | false =>
      have hin : inR W (onl l 0) := fun x hx => by
        have := List.any_eq_false.1 ha x hx
        simp at this; omega
      have : goodF W win (onl l 0) (zeros W) 0 = b := by
        rw [Bool.eq_iff_iff, good_has hw.1, h2]
        exact ⟨fun g q _ => g.2 q, fun g => ⟨hin, fun k => g k (Nat.zero_le _)⟩⟩
      rw [this]; rfl
  · intro i hi
    rw [go_ravelref19_Fair_s2, if_pos (by simpa using hi), if_pos (pos_int hi)]
  · rw [go_ravelref19_Fair_s2, if_neg (by simp)]
    exact congrArg inrO h1
theorem fair_same {l : List api_Entry} {W win : Int} (hl : l.length ≤ 1000000) (hw : win ≤ 9223372036854775807) : ∃ r, go_entry_Fair l W win = some r ∧ go_ravelref19_Fair l W win = some r := by
  by_cases h : (1 ≤ W ∧ W ≤ 64) ∧ 1 ≤ win
  · exact ⟨_, fair_eq hl h.1 h.2, rfair_eq hl h.1 ⟨h.2, hw⟩⟩
  · refine ⟨(false, 1), ?_, ?_⟩
    · unfold go_entry_Fair go_entry_within; rw [if_pos (by simp; omega)]
    · unfold go_ravelref19_Fair go_ravelref19_in; rw [if_pos (by simp; omega)]
theorem rd_len {b : List Int} (h : b.length ≤ 196608 ∨ b.length > 196608) : (rd b).1.length ≤ 1000000 := by
  unfold rd
  split
  · simp
  · split
    · simp
    · split
      · simp
      · rw [dec_len (b.length / 3) (by omega)]; omega
theorem entryTexts_true {l : List api_Entry} {b : List Int} {kind W win : Int} (hb : ∀ x ∈ b, u8ok x) (hw : win ≤ 9223372036854775807) : go_ravellaw19_EntryTexts l b kind W win = some true := by
  unfold go_ravellaw19_EntryTexts
  rw [live_eq, Option.bind_some]
  simp only [Bool.not_true, Bool.false_eq_true, if_false]
  split
  · rfl
  · rename_i hg
    have hl : l.length ≤ 300 := by simp at hg; omega
    rw [write_eq, rwrite_eq, Option.bind_some, Option.bind_some, read_eq hb, rread_eq hb, Option.bind_some, Option.bind_some]
    obtain ⟨⟨f1, f2⟩, g1, g2⟩ := fair_same (l := l) (W := W) (by omega) hw
    rw [g1, g2, Option.bind_some, Option.bind_some]
    simp only [beq_self_eq_true, Bool.and_self, if_true]
    rw [same_self (rd_len (by omega)), Option.bind_some]
    unfold go_ravellaw19_EntryTexts_j1
    simp only [beq_self_eq_true, Bool.and_self, if_true]
    rw [only_eq (by omega), ronly_eq (by omega), Option.bind_some, Option.bind_some]
    have := onl_len l kind
    rw [same_self (by omega), Option.bind_some]
    unfold go_ravellaw19_EntryTexts_j2
    rw [if_pos rfl, checkE, rcheckE, Option.bind_some, Option.bind_some, beq_self_eq_true]

end Go.Proofs.Ythhpnmfcmgdghaa
