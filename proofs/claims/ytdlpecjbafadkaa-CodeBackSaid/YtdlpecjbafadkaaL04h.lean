/- Helper lemmas for the claim's theorem: an abstract machine over the model, proved sound; no condition beyond each lemma's own. -/
import Derived.Test.YtdlpecjbafadkaaL04g
import Derived.Test.YtdlpecjbafadkaaAmG
set_option linter.unusedVariables false
set_option linter.unusedSimpArgs false
set_option linter.unnecessarySimpa false
set_option linter.unusedSectionVars false
/- Plain laws on the printed functions. -/
namespace Go.Proofs.Ytdlpecjbafadkaa
open Go Go.AM
set_option maxRecDepth 100000
set_option maxHeartbeats 1000000
set_option linter.unusedVariables false
set_option linter.unusedSimpArgs false
/- ---- programs as bytes -/
def encI (x : api_Instr) : List Int := [x.Op, x.A / 256, x.A % 256, x.B]
def decI : List Int → List api_Instr
  | a :: b :: c :: d :: r => ⟨a, 256 * b + c, d⟩ :: decI r
  | _ => []
def encP (p : List api_Instr) : List Int := (p.length : Int) :: p.flatMap encI
def encL (l : List (List api_Instr)) : List Int := (l.length : Int) :: l.flatMap encP
def rdP : Nat → List Int → Option (List (List api_Instr))
  | 0, [] => some []
  | 0, _ :: _ => none
  | _ + 1, [] => none
  | n + 1, c :: r => if r.length < 4 * c.toNat then none else (rdP n (r.drop (4 * c.toNat))).map (decI (r.take (4 * c.toNat)) :: ·)
def rd : List Int → List (List api_Instr) × Int
  | [] => ([], 2)
  | c :: r => match rdP c.toNat r with
    | none => ([], 2)
    | some l => if ckAll l then (l, 0) else ([], 2)
theorem may_byte {x : api_Instr} (h : go_ravelref04_may x = true) : (1 ≤ x.Op ∧ x.Op ≤ 9) ∧ (0 ≤ x.A ∧ x.A ≤ 1000) ∧ (0 ≤ x.B ∧ x.B ≤ 3) := by
  refine ⟨may_op h, ?_⟩
  unfold go_ravelref04_may go_ravelref04_in at h
  by_cases h1 : x.Op = 1
  · simp [h1] at h; omega
  by_cases h2 : x.Op = 2
  · simp [h2] at h; omega
  by_cases h3 : x.Op = 3
  · simp [h3] at h; omega
  by_cases h4 : x.Op = 4
  · simp [h4] at h; omega
  by_cases h5 : x.Op = 5
  · simp [h5] at h; omega
  by_cases h6 : x.Op = 6
  · simp [h6] at h; omega
  by_cases h7 : x.Op = 7
  · simp [h7] at h; omega
  by_cases h8 : x.Op = 8
  · simp [h8] at h; omega
  by_cases h9 : x.Op = 9
  · simp [h9] at h; omega
  · simp [h1, h2, h3, h4, h5, h6, h7, h8, h9] at h
theorem ck_parts {l : List (List api_Instr)} (hc : ckAll l = true) : 1 ≤ l.length ∧ l.length ≤ 16 ∧ ∀ p ∈ l, (1 ≤ p.length ∧ p.length ≤ 32) ∧ ∀ x ∈ p, go_ravelref04_may x = true := by
  have h := (ckAll_pr hc).2
  refine ⟨?_, (ckAll_pr hc).1.len, fun p hp => ⟨⟨(chkP_parts (h p hp)).1, (chkP_parts (h p hp)).2.1⟩, (chkP_parts (h p hp)).2.2⟩⟩
  unfold ckAll at hc
  simp at hc; omega
theorem encI_len : ∀ (p : List api_Instr), (p.flatMap encI).length = 4 * p.length
  | [] => rfl
  | x :: r => by rw [List.flatMap_cons, List.length_append, encI_len r]; simp [encI]; omega
theorem decI_len : ∀ (n : Nat) {b : List Int}, b.length = 4 * n → (decI b).length = n
  | 0, b, h => by rw [List.eq_nil_of_length_eq_zero (by omega : b.length = 0)]; rfl
  | n + 1, b, h => by
    match b, h with
    | x :: y :: z :: w :: r, h => rw [decI, List.length_cons, decI_len n (by simp at h; omega)]
theorem decI_enc : ∀ (p : List api_Instr), decI (p.flatMap encI) = p
  | [] => rfl
  | x :: r => by
    rw [List.flatMap_cons]
    show decI (x.Op :: (x.A / 256) :: (x.A % 256) :: x.B :: r.flatMap encI) = _
    rw [decI, decI_enc r, show 256 * (x.A / 256) + x.A % 256 = x.A by omega]
theorem enc_decI : ∀ (n : Nat) {b : List Int}, b.length = 4 * n → (∀ x ∈ b, u8ok x) → (decI b).flatMap encI = b
  | 0, b, h, _ => by rw [List.eq_nil_of_length_eq_zero (by omega : b.length = 0)]; rfl
  | n + 1, b, h, hb => by
    match b, h, hb with
    | x :: y :: z :: w :: r, h, hb =>
      have hz := hb z (by simp)
      unfold u8ok at hz
      rw [decI, List.flatMap_cons, enc_decI n (by simp at h; omega) (fun q hq => hb q (by simp [hq]))]
      show [x, (256 * y + z) / 256, (256 * y + z) % 256, w] ++ r = _
      rw [show (256 * y + z) / 256 = y by omega, show (256 * y + z) % 256 = z by omega]; rfl
theorem rdP_enc : ∀ (l : List (List api_Instr)), rdP l.length (l.flatMap encP) = some l
  | [] => rfl
  | p :: r => by
    rw [List.flatMap_cons]
    show rdP (r.length + 1) ((p.length : Int) :: (p.flatMap encI ++ r.flatMap encP)) = _
    have h := encI_len p
    rw [rdP, if_neg (by rw [List.length_append, h]; omega), Int.toNat_natCast, ← h, List.drop_left, List.take_left, rdP_enc r, decI_enc]; rfl
theorem rdP_len : ∀ (n : Nat) {b : List Int} {l : List (List api_Instr)}, rdP n b = some l → l.length = n
  | 0, [], l, h => by cases h; rfl
  | n + 1, c :: r, l, h => by
    rw [rdP] at h
    split at h
    · cases h
    · obtain ⟨q, hq, rfl⟩ := Option.map_eq_some_iff.1 h
      rw [List.length_cons, rdP_len n hq]
theorem enc_rdP : ∀ (n : Nat) {b : List Int} {l : List (List api_Instr)}, (∀ x ∈ b, u8ok x) → rdP n b = some l → l.flatMap encP = b
  | 0, [], l, _, h => by cases h; rfl
  | n + 1, c :: r, l, hb, h => by
    rw [rdP] at h
    split at h
    · cases h
    · rename_i hn
      obtain ⟨q, hq, rfl⟩ := Option.map_eq_some_iff.1 h
      have hc := hb c (by simp)
      unfold u8ok at hc
      have hl : (r.take (4 * c.toNat)).length = 4 * c.toNat := by simp; omega
      rw [List.flatMap_cons, enc_rdP n (fun x hx => hb x (List.mem_cons_of_mem _ (List.drop_subset _ _ hx))) hq]
      unfold encP
      rw [decI_len _ hl, enc_decI _ hl (fun x hx => hb x (List.mem_cons_of_mem _ (List.take_subset _ _ hx))), List.cons_append, List.take_append_drop, show ((c.toNat : Nat) : Int) = c by omega]
theorem rdP_ext : ∀ (n : Nat) {b y : List Int} {l : List (List api_Instr)}, rdP n b = some l → y ≠ [] → rdP n (b ++ y) = none
  | 0, [], y, l, _, hy => by
    cases y with
    | nil => exact absurd rfl hy
    | cons a r => rfl
  | n + 1, c :: r, y, l, h, hy => by
    rw [rdP] at h
    split at h
    · cases h
    · rename_i hn
      obtain ⟨q, hq, rfl⟩ := Option.map_eq_some_iff.1 h
      rw [List.cons_append, rdP, if_neg (by simp; omega), List.drop_append_of_le_length (by omega), rdP_ext n hq hy]; rfl
theorem rdP_cut {n : Nat} {b : List Int} {l : List (List api_Instr)} (h : rdP n b = some l) (hb : b ≠ []) : rdP n b.dropLast = none := by
  cases hr : rdP n b.dropLast with
  | none => rfl
  | some q =>
    have := rdP_ext n hr (y := [b.getLast hb]) (by simp)
    rw [List.dropLast_concat_getLast, h] at this; cases this
theorem bytes_encP {p : List api_Instr} (hp : p.length ≤ 32) (hm : ∀ x ∈ p, go_ravelref04_may x = true) : ∀ y ∈ encP p, u8ok y := fun y hy => by
  unfold u8ok
  rcases List.mem_cons.1 hy with rfl | hy
  · omega
  · obtain ⟨x, hx, hy⟩ := List.mem_flatMap.1 hy
    have := may_byte (hm x hx)
    simp only [encI, List.mem_cons, List.mem_nil_iff, or_false] at hy
    rcases hy with rfl | rfl | rfl | rfl <;> omega
theorem bytes_encL {l : List (List api_Instr)} (hc : ckAll l = true) : ∀ y ∈ encL l, u8ok y := fun y hy => by
  obtain ⟨h1, h2, h3⟩ := ck_parts hc
  rcases List.mem_cons.1 hy with rfl | hy
  · unfold u8ok; omega
  · obtain ⟨p, hp, hy⟩ := List.mem_flatMap.1 hy
    exact bytes_encP (h3 p hp).1.2 (h3 p hp).2 y hy
theorem encL_len : ∀ {l : List (List api_Instr)}, (∀ p ∈ l, p.length ≤ 32) → (l.flatMap encP).length ≤ 129 * l.length
  | [], _ => by simp
  | p :: r, h => by
    have := encL_len (l := r) (fun q hq => h q (by simp [hq]))
    have h1 := encI_len p
    have h2 := h p (by simp)
    rw [List.flatMap_cons, List.length_append]; simp only [encP, List.length_cons]; omega
theorem wrI_loop {p : List api_Instr} (hp : p.length ≤ 32) (hm : ∀ x ∈ p, go_ravelref04_may x = true) {K : Type} {step : List Int × Int → Option ((List Int × Int) ⊕ K)} {fin : List Int → Option K}
    (hs : ∀ (i : Nat) (o : List Int) (hi : i < p.length), step (o, (i : Int)) = if few (o ++ encI p[i]).length then nextO (o ++ encI p[i], ((i + 1 : Nat) : Int)) else none)
    (h0 : ∀ o, step (o, (p.length : Int)) = inrO (fin o)) (o : List Int) (ho : o.length ≤ 100000) :
    whileO step (o, 0) = fin (o ++ p.flatMap encI) := by
  have := whileO_list (step := step) p (fun i (o : List Int) => (o, (i : Int))) (fun r o => fin (o ++ r.flatMap encI)) (fun i o => o.length ≤ 100000 + 4 * i) o (by omega) ?_ ?_
  · simpa using this
  · intro o _
    rw [h0]; simp
  · intro i o hi hI
    left
    have he : (encI p[i]).length = 4 := rfl
    refine ⟨o ++ encI p[i], ?_, by rw [List.length_append, he]; omega, by simp only [List.flatMap_cons, List.append_assoc]⟩
    rw [hs i o hi, if_pos (by unfold few; rw [List.length_append, he]; omega)]
theorem encI_w {x : api_Instr} (h : go_ravelref04_may x = true) : [IntKind.u8.wrap x.Op, IntKind.u8.wrap (Int.fdiv x.A (2 ^ (min (Int.toNat 8) IntKind.i64.bits))), IntKind.u8.wrap x.A, IntKind.u8.wrap x.B] = encI x := by
  have := may_byte h
  have e : (2 : Int) ^ (min (Int.toNat 8) IntKind.i64.bits) = 256 := by decide
  have e2 : IntKind.u8.wrap x.A = x.A % 256 := by unfold IntKind.wrap; simp [IntKind.signed, IntKind.bits]
  rw [e, e2, Int.fdiv_eq_ediv_of_nonneg _ (by omega), wu8_id (by omega) (by omega), wu8_id (by omega) (by omega), wu8_id (by omega) (by omega)]; rfl
theorem wrP_loop {l : List (List api_Instr)} (hl : l.length ≤ 16) (hp : ∀ p ∈ l, p.length ≤ 32) {K : Type} {step : List Int × Int → Option ((List Int × Int) ⊕ K)} {fin : List Int → Option K}
    (hs : ∀ (i : Nat) (o : List Int) (hi : i < l.length), o.length ≤ 10000 → step (o, (i : Int)) = nextO (o ++ encP l[i], ((i + 1 : Nat) : Int)))
    (h0 : ∀ o, step (o, (l.length : Int)) = inrO (fin o)) (o : List Int) (ho : o.length = 1) :
    whileO step (o, 0) = fin (o ++ l.flatMap encP) := by
  have := whileO_list (step := step) l (fun i (o : List Int) => (o, (i : Int))) (fun r o => fin (o ++ r.flatMap encP)) (fun i o => o.length ≤ 1 + 129 * i) o (by omega) ?_ ?_
  · simpa using this
  · intro o _
    rw [h0]; simp
  · intro i o hi hI
    left
    have he : (encP l[i]).length ≤ 129 := by
      have := encI_len l[i]
      have := hp _ (List.getElem_mem hi)
      simp only [encP, List.length_cons]; omega
    refine ⟨o ++ encP l[i], hs i o hi (by omega), by rw [List.length_append]; omega, by simp only [List.flatMap_cons, List.append_assoc]⟩
theorem write_eq {l : List (List api_Instr)} (h : poks l) : go_code_Write l = some (if ckAll l then (encL l, 0) else ([], 1)) := by
  unfold go_code_Write
  rw [checkAll_eq h, Option.bind_some]
  cases hc : ckAll l with
  | false => rfl
  | true =>
    obtain ⟨h1, h2, h3⟩ := ck_parts hc
    rw [if_neg (by simp), wu8_id (by omega) (by omega)]
    rw [wrP_loop (l := l) (fin := fun o => some (o, 0)) h2 (fun p hp => (h3 p hp).1.2) ?_ ?_ _ rfl]
    · rfl
    · intro i o hi ho
      have hq := h3 _ (List.getElem_mem hi)
      rw [go_code_Write_s3, if_pos (by simpa using hi), if_pos (pos_int hi), gt_nat hi, if_pos (by unfold few; simp; omega), wu8_id (by omega) (by omega)]
      rw [wrI_loop (p := l[i]) (fin := fun o => nextO (o, ((i + 1 : Nat) : Int))) hq.1.2 hq.2 ?_ ?_ _ (by simp; omega)]
      · rw [List.append_assoc]; rfl
      · intro j o hj
        rw [go_code_Write_s4, gt_nat hi, if_pos (by simpa using hj), if_pos (pos_int hj), gt_nat hj, encI_w (hq.2 _ (List.getElem_mem hj)), w64_nat (by omega)]
      · intro o
        rw [go_code_Write_s4, gt_nat hi, if_neg (by simp), w64_nat (by omega)]
    · intro o
      rw [go_code_Write_s3, if_neg (by simp)]
theorem drop4 {b : List Int} {i : Nat} (h : i + 4 ≤ b.length) : b.drop i = b[i] :: b[i + 1] :: b[i + 2] :: b[i + 3] :: b.drop (i + 4) := by
  rw [List.drop_eq_getElem_cons (by omega), List.drop_eq_getElem_cons (by omega), List.drop_eq_getElem_cons (by omega), List.drop_eq_getElem_cons (by omega)]
theorem sub4 {b : List Int} {i : Nat} (h : i + 4 ≤ b.length) : sub b (i : Int) ((i + 4 : Nat) : Int) = [b[i], b[i + 1], b[i + 2], b[i + 3]] := by
  unfold sub
  rw [Int.toNat_natCast, Int.toNat_natCast, show i + 4 - i = 4 by omega, drop4 h]; rfl
theorem or8 {x y : Int} (hx : u8ok x) (hy : u8ok y) : IntKind.i64.wrap (BitVec.ofInt IntKind.i64.bits (IntKind.i64.wrap (x * 2 ^ (min (Int.toNat 8) IntKind.i64.bits))) ||| BitVec.ofInt IntKind.i64.bits y).toNat = 256 * x + y := by
  unfold u8ok at hx hy
  have e : (2 : Int) ^ (min (Int.toNat 8) IntKind.i64.bits) = 256 := by decide
  obtain ⟨a, rfl⟩ : ∃ a : Nat, x = (a : Int) := ⟨x.toNat, by omega⟩
  obtain ⟨c, rfl⟩ : ∃ c : Nat, y = (c : Int) := ⟨y.toNat, by omega⟩
  rw [e, w64_id (n := (a : Int) * 256) (by omega) (by omega), BitVec.toNat_or]
  have h1 : (BitVec.ofInt IntKind.i64.bits ((a : Int) * 256)).toNat = a * 256 := by
    rw [BitVec.toNat_ofInt]; simp [IntKind.bits]; omega
  have h2 : (BitVec.ofInt IntKind.i64.bits (c : Int)).toNat = c := by
    rw [BitVec.toNat_ofInt]; simp [IntKind.bits]; omega
  have h3 := Nat.shiftLeft_add_eq_or_of_lt (b := c) (i := 8) (by omega) a
  rw [h1, h2, show a * 256 = a <<< 8 by rw [Nat.shiftLeft_eq], ← h3, Nat.shiftLeft_eq, w64_id (by omega) (by omega)]
  omega
theorem subG_take {α : Type} (p : List α) (n : Int) : sub p 0 n = p.take n.toNat := by simp [sub]
theorem subG_drop {α : Type} (p : List α) (n : Int) : sub p n (p.length : Int) = p.drop n.toNat := by unfold sub; rw [List.take_of_length_le (by simp)]
/-- The inner loop of code.Read: the bytes of one program. -/
theorem chunk_loop {w : List Int} (hw : ∀ x ∈ w, u8ok x) (hl : w.length ≤ 100000) {K : Type} {step : Int × List api_Instr → Option ((Int × List api_Instr) ⊕ K)} {fin : List api_Instr → Option K}
    (hs : ∀ (k : Nat) (o : List api_Instr) (hi : 4 * k + 4 ≤ w.length), o.length = k → step (((4 * k : Nat) : Int), o) = nextO (((4 * (k + 1) : Nat) : Int), o ++ [⟨w[4 * k], 256 * w[4 * k + 1] + w[4 * k + 2], w[4 * k + 3]⟩]))
    (h0 : ∀ o, step ((w.length : Int), o) = inrO (fin o)) :
    ∀ (m k : Nat) (o : List api_Instr), 4 * (k + m) = w.length → o.length = k → whileO step (((4 * k : Nat) : Int), o) = fin (o ++ decI (w.drop (4 * k)))
  | 0, k, o, h, ho => by
    have e : 4 * k = w.length := by omega
    rw [e, List.drop_length, show decI [] = [] from rfl, List.append_nil]
    cases hf : fin o with
    | none => rw [whileO_none]; rw [h0, hf]; rfl
    | some r => rw [whileO_inr]; rw [h0, hf]; rfl
  | m + 1, k, o, h, ho => by
    have hi : 4 * k + 4 ≤ w.length := by omega
    rw [whileO_inl (by rw [hs k o hi ho]; rfl), chunk_loop hw hl hs h0 m (k + 1) _ (by omega) (by simp; omega), drop4 hi, decI]
    rw [show 4 * (k + 1) = 4 * k + 4 by omega, List.append_assoc]; rfl
theorem read_inner {v : List Int} {l : List (List api_Instr)} {i : Nat} {c : Nat} (hv : ∀ x ∈ v, u8ok x) (h : v.length ≤ 100000) (hl : l.length ≤ 1000) (hi : i ≤ 1000) (hc : gt v 0 = (c : Int)) (hc2 : c ≤ 255) (h4 : 4 * c + 1 ≤ v.length) :
    whileO (go_code_Read_s14 v l (i : Int)) (0, []) = nextO (v.drop (1 + 4 * c), l ++ [decI ((v.drop 1).take (4 * c))], ((i + 1 : Nat) : Int)) := by
  have e1 : IntKind.i64.wrap (4 * (IntKind.i64.wrap (gt v 0))) = ((4 * c : Nat) : Int) := by
    rw [hc, w64_id (n := (c : Int)) (by omega) (by omega), w64_id (by omega) (by omega)]; omega
  have e2 : sub v (1 : Int) (v.length : Int) = v.drop 1 := subG_drop v 1
  have e3 : sub (v.drop 1) 0 ((4 * c : Nat) : Int) = (v.drop 1).take (4 * c) := by rw [subG_take]; rfl
  have hr : (v.drop 1).length = v.length - 1 := by simp
  obtain ⟨w, hw⟩ : ∃ w, (v.drop 1).take (4 * c) = w := ⟨_, rfl⟩
  have hwl : w.length = 4 * c := by rw [← hw]; simp; omega
  have hwm : ∀ x ∈ w, u8ok x := fun x hx => hv x (List.mem_of_mem_drop (List.mem_of_mem_take (hw ▸ hx)))
  have := chunk_loop (w := w) hwm (by omega) (step := go_code_Read_s14 v l (i : Int)) (fin := fun o => nextO (v.drop (1 + 4 * c), l ++ [o], ((i + 1 : Nat) : Int))) ?_ ?_ c 0 [] (by omega) rfl
  · rw [show ((4 * 0 : Nat) : Int) = 0 from rfl, List.drop_zero, List.nil_append] at this
    rw [this, hw]
  · intro k o hk ho
    have hww : IntKind.i64.wrap (((4 * k : Nat) : Int) + 4) = ((4 * k + 4 : Nat) : Int) := by rw [w64_id (by omega) (by omega)]; omega
    have hsl : ((sub w ((4 * k : Nat) : Int) (w.length : Int)).length : Int) = (w.length : Int) - 4 * k := by unfold sub; simp; omega
    have hif : (if ((sub w ((4 * k : Nat) : Int) (w.length : Int)).length : Int) < (4 : Int) then ((sub w ((4 * k : Nat) : Int) (w.length : Int)).length : Int) else (4 : Int)) = 4 := by
      rw [if_neg (by omega)]
    have mem : ∀ j (hj : j < w.length), IntKind.i64.wrap w[j] = w[j] := fun j hj => by
      have := hwm w[j] (List.getElem_mem hj)
      unfold u8ok at this
      exact w64_id (by omega) (by omega)
    rw [go_code_Read_s14, e1, e2, e3, hw, if_pos (by simp; omega), if_pos (by omega), hif, hww, if_pos (by omega), sub4 hk]
    simp only [List.length_cons, List.length_nil]
    rw [if_pos (by omega), if_pos (by omega), if_pos (by omega), if_pos (by omega), if_pos (by unfold few; simp; omega)]
    simp only [gt, List.getD_cons_zero, List.getD_cons_succ, Int.toNat_zero, show (1 : Int).toNat = 1 from rfl, show (2 : Int).toNat = 2 from rfl, show (3 : Int).toNat = 3 from rfl, mem]
    rw [or8 (hwm _ (List.getElem_mem _)) (hwm _ (List.getElem_mem _))]
    rfl
  · intro o
    rw [go_code_Read_s14, e1, e2, e3, hw, if_neg (by simp), if_pos (by rw [hr]; omega), if_pos (by unfold few; simp; omega), w64_nat (by omega), subG_drop, List.drop_drop]
    rfl

end Go.Proofs.Ytdlpecjbafadkaa
