/- Helper lemmas for the claim's theorem: an abstract machine over the model, proved sound; no condition beyond each lemma's own. -/
import Derived.Test.YtpkegoikocfchaaDoorAmJ
set_option linter.unusedVariables false
set_option linter.unusedSimpArgs false
set_option linter.unnecessarySimpa false
set_option linter.unusedSectionVars false
/- Maps whose entries point to variables of the call's own. -/
namespace Go.AM
open Go Go.RowKit
variable {r : Bool} {P : Program} {E : Env} {gl : List (Nat × List V)}

/-- Names of the entries' variables. -/
def pid (j : Nat) : Id := [4294967295, j]
def magic : Id → Bool
  | a :: _ => Nat.beq a 4294967295
  | [] => false
def hid (h : Option (Nat × Id)) (j : Nat) : Id := match h with
  | some (i, b) => if i = j then b else pid j
  | none => pid j
section
variable {κ α : Type}
def pmE (fk : κ → V) (h : Option (Nat × Id)) : Nat → List (κ × α) → List (V × V)
  | _, [] => []
  | j, (k, _) :: r => (fk k, .ptr (hid h j) 0 0) :: pmE fk h (j + 1) r
def pmB (f : α → List V) (h : Option (Nat × Id)) : Nat → List (κ × α) → List (Id × Obj)
  | _, [] => []
  | j, (_, v) :: r => if h.map (·.1) = some j then pmB f h (j + 1) r else (pid j, .box (f v)) :: pmB f h (j + 1) r
/-- Such a map, and its entries' variables; one of them may have a name of its own, and be told elsewhere. -/
def pmo (M : Id) (fk : κ → V) (f : α → List V) (h : Option (Nat × Id)) (m : List (κ × α)) : List (Id × Obj) := (M, .pmap (pmE fk h 0 m)) :: pmB f h 0 m
/-- At which place a key stands. -/
def mix [DecidableEq κ] (k : κ) : List (κ × α) → Nat
  | [] => 0
  | (x, _) :: r => if k = x then 0 else mix k r + 1

theorem pid_inj {i j : Nat} (h : pid i = pid j) : i = j := by simpa [pid] using h
theorem pid_not {o : Id} (h : magic o = false) (q : Nat) : pid q ≠ o := fun e => by subst e; simp [magic, pid] at h
theorem pmB_not {f : α → List V} {h : Option (Nat × Id)} {o : Id} (ho : ∀ q, pid q ≠ o) : ∀ (m : List (κ × α)) (j : Nat), oget (pmB f h j m) o = none
  | [], _ => rfl
  | (k, v) :: r, j => by
    simp only [pmB]
    split
    · exact pmB_not ho r (j + 1)
    · rw [oget_cons, if_neg (ho j)]; exact pmB_not ho r (j + 1)
theorem pmB_pid {f : α → List V} {h : Option (Nat × Id)} (q : Nat) : ∀ (m : List (κ × α)) (j : Nat), oget (pmB f h j m) (pid q) = if j ≤ q ∧ h.map (·.1) ≠ some q then (m[q - j]?).map (fun p => Obj.box (f p.2)) else none
  | [], j => by simp [pmB, oget]
  | (k, v) :: r, j => by
    simp only [pmB]
    have ih := pmB_pid (f := f) (h := h) q r (j + 1)
    split
    · rename_i hj
      rw [ih]
      by_cases e : j = q
      · subst e; rw [if_neg (by omega), if_neg (fun x => x.2 hj)]
      · by_cases c : j ≤ q ∧ h.map (·.1) ≠ some q
        · rw [if_pos ⟨by omega, c.2⟩, if_pos c, show q - j = (q - (j + 1)) + 1 by omega]; rfl
        · rw [if_neg c, if_neg (fun x => c ⟨by omega, x.2⟩)]
    · rename_i hj
      rw [oget_cons]
      by_cases e : j = q
      · subst e; rw [if_pos rfl, if_pos ⟨Nat.le_refl _, hj⟩, Nat.sub_self]; rfl
      · rw [if_neg (fun x => e (pid_inj x)), ih]
        by_cases c : j ≤ q ∧ h.map (·.1) ≠ some q
        · rw [if_pos ⟨by omega, c.2⟩, if_pos c, show q - j = (q - (j + 1)) + 1 by omega]; rfl
        · rw [if_neg c, if_neg (fun x => c ⟨by omega, x.2⟩)]
theorem swp_pid {j : Nat} {b : Id} (hb : magic b = false) (i : Nat) : swp (pid j) b (pid i) = hid (some (j, b)) i := by
  rw [swp_def]
  simp only [hid]
  by_cases e : j = i
  · subst e; simp
  · rw [if_neg (fun q => e (pid_inj q).symm), if_neg (pid_not hb i), if_neg e]
theorem swp_hid {j : Nat} {b : Id} (hb : magic b = false) (i : Nat) : swp (pid j) b (hid (some (j, b)) i) = pid i := by rw [← swp_pid hb, swp_swp]
theorem renP_pmE {fk : κ → V} {j : Nat} {b : Id} (hb : magic b = false) : ∀ (m : List (κ × α)) (i : Nat), renP (pid j) b (pmE fk none i m) = pmE fk (some (j, b)) i m ∧ renP (pid j) b (pmE fk (some (j, b)) i m) = pmE fk none i m
  | [], _ => ⟨rfl, rfl⟩
  | (k, v) :: r, i => by
    have ih := renP_pmE (fk := fk) (j := j) hb r (i + 1)
    simp only [pmE, renP, V.ren, ih.1, ih.2, hid, swp_pid hb]
    have := swp_hid hb (j := j) i
    simp only [hid] at this
    rw [this]
    trivial
theorem pmE_keys {α' : Type} {fk : κ → V} {h : Option (Nat × Id)} : ∀ {m : List (κ × α)} {m' : List (κ × α')} (j : Nat), m.map (·.1) = m'.map (·.1) → pmE fk h j m = pmE fk h j m'
  | [], [], _, _ => rfl
  | [], _ :: _, _, e => by simp at e
  | _ :: _, [], _, e => by simp at e
  | (k, v) :: r, (k', v') :: r', j, e => by
    simp only [List.map_cons, List.cons.injEq] at e
    simp only [pmE, e.1, pmE_keys (j + 1) e.2]

section
variable [DecidableEq κ]
theorem mix_get {k : κ} {v : α} : ∀ {m : List (κ × α)}, mget m k = some v → m[mix k m]? = some (k, v) ∧ ∀ u, mput m k u = m.set (mix k m) (k, u)
  | [], h => by cases h
  | (x, y) :: r, h => by
    simp only [mget] at h
    simp only [mix, mput]
    by_cases e : k = x
    · subst e
      rw [if_pos rfl] at h ⊢
      injection h with h; subst h
      exact ⟨rfl, fun u => by rw [if_pos rfl]; rfl⟩
    · rw [if_neg e] at h ⊢
      have ih := mix_get h
      exact ⟨by simpa using ih.1, fun u => by rw [if_neg e, ih.2 u]; rfl⟩
theorem mix_no {k : κ} : ∀ {m : List (κ × α)}, mget m k = none → mix k m = m.length ∧ ∀ u, mput m k u = m ++ [(k, u)]
  | [], _ => ⟨rfl, fun _ => rfl⟩
  | (x, y) :: r, h => by
    simp only [mget] at h
    simp only [mix, mput]
    by_cases e : k = x
    · rw [if_pos e] at h; cases h
    · rw [if_neg e] at h ⊢
      have ih := mix_no h
      exact ⟨by simp [ih.1], fun u => by rw [if_neg e, ih.2 u]; rfl⟩
theorem mget_put {k : κ} (u : α) : ∀ (m : List (κ × α)), mget (mput m k u) k = some u ∧ mix k (mput m k u) = mix k m ∧ ∀ v, mput (mput m k u) k v = mput m k v
  | [] => by simp [mput, mget, mix]
  | (x, y) :: r => by
    have ih := mget_put (k := k) u r
    simp only [mput]
    by_cases e : k = x
    · simp [e, mget, mix, mput]
    · rw [if_neg e]
      simp only [mget, mix, mput, if_neg e, ih.1, ih.2.1, true_and]
      intro v; rw [ih.2.2 v]
theorem mput_same {k : κ} {v : α} : ∀ {m : List (κ × α)}, mget m k = some v → mput m k v = m
  | [], h => by cases h
  | (x, y) :: r, h => by
    simp only [mget] at h
    simp only [mput]
    by_cases e : k = x
    · rw [if_pos e] at h ⊢; injection h with h; rw [h, e]
    · rw [if_neg e] at h ⊢; rw [mput_same h]
end

/-- A state told anew around such a map: the same objects ahead of it, but for those of one name. -/
inductive Tg (dr : Bool) (a b : Id) (t t' : List (Id × Obj)) : List (Id × Obj) → List (Id × Obj) → Prop
  | here : Tg dr a b t t' t t'
  | cons {o : Id} {x : Obj} {ob ob' : List (Id × Obj)} (h1 : swp a b o = o) (h2 : x.ren a b = x) (r : Tg dr a b t t' ob ob') : Tg dr a b t t' ((o, x) :: ob) ((o, x) :: ob')
  | drop {o : Id} {x : Obj} {ob ob' : List (Id × Obj)} (hd : dr = true) (h : o = b) (r : Tg dr a b t t' ob ob') : Tg dr a b t t' ((o, x) :: ob) ob'
theorem swp_fix {a b o : Id} (hab : a ≠ b) (h : swp a b o = o) : o ≠ a ∧ o ≠ b := by
  rw [swp_def] at h
  constructor
  · intro e
    rw [if_pos e] at h; exact hab (by rw [← e, h])
  · intro e
    rw [if_neg (fun e2 : o = a => hab (by rw [← e2, e])), if_pos e] at h; exact hab (by rw [h, e])
theorem Tg.get {dr : Bool} {a b : Id} {t t' ob ob' : List (Id × Obj)} (hab : a ≠ b) (h : Tg dr a b t t' ob ob') {o : Id} (ha : o ≠ a) (ht : oget (renO a b t) o = oget t' o) : oget (renO a b ob) o = oget ob' o := by
  induction h with
  | here => exact ht
  | cons h1 h2 _ ih => simp only [renO, h1, h2, oget_cons, ih]
  | drop _ e _ ih =>
    subst e
    simp only [renO, oget_cons]
    rw [if_neg, ih]
    rw [swp_def, if_neg (Ne.symm hab), if_pos rfl]
    exact Ne.symm ha
theorem Tg.at {dr : Bool} {a b : Id} {t t' ob ob' : List (Id × Obj)} (hab : a ≠ b) (h : Tg dr a b t t' ob ob') : oget ob' a = oget t' a ∧ oget ob a = oget t a ∧ oget ob' b = oget t' b ∧ (dr = false → oget ob b = oget t b) := by
  induction h with
  | here => exact ⟨rfl, rfl, rfl, fun _ => rfl⟩
  | cons h1 h2 _ ih => simp only [oget_cons, if_neg (swp_fix hab h1).1, if_neg (swp_fix hab h1).2]; exact ih
  | drop hd e _ ih =>
    subst e
    refine ⟨ih.1, ?_, ih.2.2.1, fun h => by rw [h] at hd; cases hd⟩
    rw [oget_cons, if_neg (Ne.symm hab)]
    exact ih.2.1
/-- The same objects ahead. -/
inductive Tt (t t' : List (Id × Obj)) : List (Id × Obj) → List (Id × Obj) → Prop
  | here : Tt t t' t t'
  | cons {p : Id × Obj} {ob ob' : List (Id × Obj)} (r : Tt t t' ob ob') : Tt t t' (p :: ob) (p :: ob')
theorem Tt.get {t t' ob ob' : List (Id × Obj)} (h : Tt t t' ob ob') {o : Id} (ht : oget t o = oget t' o) : oget ob o = oget ob' o := by
  induction h with
  | here => exact ht
  | cons _ ih => rw [show ∀ (p : Id × Obj) r, oget (p :: r) o = if p.1 = o then some p.2 else oget r o from fun p r => oget_cons p.1 p.2 r o, show ∀ (p : Id × Obj) r, oget (p :: r) o = if p.1 = o then some p.2 else oget r o from fun p r => oget_cons p.1 p.2 r o, ih]
/-- Nothing ahead has such a name. -/
inductive Tn (t : List (Id × Obj)) : List (Id × Obj) → Prop
  | here : Tn t t
  | cons {o : Id} {x : Obj} {ob : List (Id × Obj)} (h : magic o = false) (r : Tn t ob) : Tn t ((o, x) :: ob)
theorem Tn.get {t ob : List (Id × Obj)} (h : Tn t ob) (q : Nat) : oget ob (pid q) = oget t (pid q) := by
  induction h with
  | here => rfl
  | cons h _ ih => rw [oget_cons, if_neg (fun e => pid_not h q e.symm)]; exact ih
/-- Nothing ahead has this name. -/
inductive Tf (k : Id) (t : List (Id × Obj)) : List (Id × Obj) → Prop
  | here : Tf k t t
  | cons {o : Id} {x : Obj} {ob : List (Id × Obj)} (h : idEq o k = false) (r : Tf k t ob) : Tf k t ((o, x) :: ob)
theorem Tf.get {k : Id} {t ob : List (Id × Obj)} (h : Tf k t ob) : oget ob k = oget t k := by
  induction h with
  | here => rfl
  | cons h _ ih => simp only [oget, h]; exact ih

section
variable {M : Id} {fk : κ → V} {f : α → List V} {h : Option (Nat × Id)} {m : List (κ × α)} {ob : List (Id × Obj)}
theorem fr_tl {k : Id} (hk : magic k = false) (hM : idEq M k = false) (t : Tf k (pmo M fk f h m) ob) : oget ob k = none := by
  rw [t.get]
  simp only [pmo, oget, hM]
  exact pmB_not (pid_not hk) m 0
theorem fresh_cons {k : Id} {x : Obj} {nw : List (Id × Obj)} (h : oget ob k = none) (t : fresh ob nw = true) : fresh ob ((k, x) :: nw) = true := by
  simp only [fresh, h]; exact t
theorem pmo_pid (hM : magic M = false) (q : Nat) : oget (pmo M fk f h m) (pid q) = if h.map (·.1) ≠ some q then (m[q]?).map (fun p => Obj.box (f p.2)) else none := by
  rw [pmo, oget_cons, if_neg (fun e => pid_not hM q e.symm), pmB_pid, Nat.sub_zero]
  by_cases e : h.map (·.1) = some q
  · rw [if_neg (fun x => x.2 e), if_neg (fun x => x e)]
  · rw [if_pos ⟨Nat.zero_le _, e⟩, if_pos e]
theorem upOb_pmB (tn : ∀ q, oget ob (pid q) = if h.map (·.1) ≠ some q then (m[q]?).map (fun p => Obj.box (f p.2)) else none) : ∀ (l : List (κ × α)) (j : Nat), m.drop j = l → upOb ob (pmB f h j l)
  | [], _, _ => trivial
  | (k, v) :: r, j, e => by
    have hr : m.drop (j + 1) = r := by rw [← List.drop_drop, e]; rfl
    simp only [pmB]
    split
    · exact upOb_pmB tn r (j + 1) hr
    · rename_i hj
      refine ⟨⟨.box (f v), ?_, .refl _⟩, upOb_pmB tn r (j + 1) hr⟩
      rw [tn j, if_pos hj]
      have : m[j]? = some (k, v) := by
        have h2 : (m.drop j)[0]? = some (k, v) := by rw [e]; rfl
        rwa [List.getElem?_drop, Nat.add_zero] at h2
      rw [this]; rfl
theorem upOb_tl (hM : magic M = false) (tn : Tn (pmo M fk f h m) ob) (ho : oget ob M = some (.pmap (pmE fk h 0 m))) : upOb ob (pmo M fk f h m) :=
  ⟨⟨_, ho, .refl _⟩, upOb_pmB (fun q => by rw [tn.get q, pmo_pid hM]) m 0 (by simp)⟩
theorem wi_cons {o : Id} {x : Obj} {l : List (Id × Obj)} (h : x.within ob = true) (t : obWithin ob l = true) : obWithin ob ((o, x) :: l) = true := by
  simp only [obWithin, h, t]; rfl
theorem cl3 {A B C : Bool} (a : A = true) (b : B = true) (c : C = true) : (A && B && C) = true := by subst a; subst b; subst c; rfl
theorem wi_pmE (tn : ∀ q, q < m.length → alive ob (hid h q) = true) : ∀ (l : List (κ × α)) (j : Nat), j + l.length ≤ m.length → pWithin ob (pmE fk h j l) = true
  | [], _, _ => rfl
  | (k, v) :: r, j, e => by
    simp only [List.length_cons] at e
    simp only [pmE, pWithin, V.within, tn j (by omega), wi_pmE tn r (j + 1) (by omega)]; rfl
theorem wi_pmB (hf : ∀ v, withins ob (f v) = true) : ∀ (l : List (κ × α)) (j : Nat), obWithin ob (pmB f h j l) = true
  | [], _ => rfl
  | (k, v) :: r, j => by
    simp only [pmB]
    split
    · exact wi_pmB hf r (j + 1)
    · exact wi_cons (hf v) (wi_pmB hf r (j + 1))
theorem wi_tl (hM : magic M = false) (tn : Tn (pmo M fk f h m) ob) (hf : ∀ v, withins ob (f v) = true) (hb : ∀ j b, h = some (j, b) → alive ob b = true) : obWithin ob (pmo M fk f h m) = true := by
  refine wi_cons (wi_pmE (m := m) (fun q hq => ?_) m 0 (by simp)) (wi_pmB hf m 0)
  have hp : ∀ j, (h.map (·.1) ≠ some j) → j < m.length → alive ob (pid j) = true := fun j hj hl => by
    have : oget ob (pid j) = some (.box (f m[j].2)) := by rw [tn.get, pmo_pid hM, if_pos hj]; simp [hl]
    simp only [alive, this]
  cases h with
  | none => exact hp q (by simp) hq
  | some x =>
    obtain ⟨j, b⟩ := x
    simp only [hid]
    split
    · exact hb j b rfl
    · rename_i e; exact hp q (by simpa using e) hq
end
end
theorem nob {ob : List (Id × Obj)} : ∀ j b, (none : Option (Nat × Id)) = some (j, b) → alive ob b = true := fun _ _ e => by cases e
theorem sob {ob : List (Id × Obj)} {i : Nat} {b : Id} (h : alive ob b = true) : ∀ j b', (some (i, b) : Option (Nat × Id)) = some (j, b') → alive ob b' = true := fun _ _ e => by injection e with e; injection e with _ e; exact e ▸ h
end Go.AM

/- Lookups and entries of such maps. -/
namespace Go.AM
open Go Go.RowKit
variable {r : Bool} {P : Program} {E : Env} {gl : List (Nat × List V)} {κ α : Type} [DecidableEq κ]

theorem pget_now {w : World} {B : BM} {pr : Nat → Prop} {u : TypeDesc} {fk : κ → V} {kk : κ} {c : Value} {h : Option (Nat × Id)} (hf : KeyF fk) (hu : MapKept.IsKey u c) (hk : RC0 w pr (fk kk) c) : ∀ {m : List (κ × α)} {ms : List MapEntry} (i j : Nat), RCp w B pr (pmE fk h j m) ms →
    (mget m kk = none → Instr.findNow u c ms i = some none) ∧ ∀ v, mget m kk = some v → ∃ d, Instr.findNow u c ms i = some (some (i + mix kk m, d)) ∧ RC w B pr (.ptr (hid h (j + mix kk m)) 0 0) d
  | [], [], i, j, _ => ⟨fun _ => rfl, fun _ e => by cases e⟩
  | [], _ :: _, _, _, q => q.elim
  | (_, _) :: _, [], _, _, q => q.elim
  | (x, y) :: m, e :: ms, i, j, q => by
    have hn := kSame_now hu hk q.1 (hf kk x)
    have ih := pget_now (h := h) hf hu hk (m := m) (ms := ms) (i + 1) (j + 1) q.2.2
    simp only [mget, mix]
    by_cases ex : kk = x
    · rw [if_pos ex, if_pos ex]
      refine ⟨fun h => by (cases h), fun v hv => ⟨e.val, ?_, by simpa using q.2.1⟩⟩
      simp only [Instr.findNow, hn.1, ex, decide_true]; rfl
    · rw [if_neg ex, if_neg ex]
      have hn1 := hn.1
      rw [decide_eq_false ex] at hn1
      refine ⟨fun h => ?_, fun v hv => ?_⟩
      · simp only [Instr.findNow, hn1]; exact ih.1 h
      · obtain ⟨d, h1, h2⟩ := ih.2 v hv
        refine ⟨d, ?_, by rwa [show j + (mix kk m + 1) = j + 1 + mix kk m by omega]⟩
        simp only [Instr.findNow, hn1]
        rw [h1]
        congr 3; omega

theorem Sim.pmapAt {w0 : World} {pr0 ow : Nat → Prop} {n : Nat} {tm : List (Nat × V)} {ob : List (Id × Obj)} {out : List (Nat × List (Nat × V))} {pa : Id} {a : Act} {ao : List (Array Value)} {w : World} {B : BM} {pr : Nat → Prop}
    (h : Sim gl w0 pr0 ow ⟨n, tm, ob, out, pa⟩ a ao w B pr) {o : Id} {es : List (V × V)} (ho : oget ob o = some (.pmap es)) {c : Value} (hc : RC w B pr (.mapr o) c) :
    ∃ bd ms clock, B o = some bd ∧ ¬ pr bd.b ∧ bd.b < w.heap.size ∧ c = .map (some bd.b) ∧ w.heap[bd.b]? = some (.map ms clock) ∧ RCp w B pr es ms.toList ∧ Stamps ms clock := by
  cases hc with
  | base h => cases h
  | mapr hB =>
    rcases h.obs _ _ ho with ⟨g1, _⟩ | ⟨_, ⟨bd', hB', ⟨q1, q2, ms, clock, q3, q4, q5⟩, _⟩ | ⟨hB', _, _, e⟩⟩
    · cases g1
    · rw [hB] at hB'; injection hB' with hB'; subst hB'
      exact ⟨_, ms, clock, hB, q1, q2, rfl, q3, q4, q5⟩
    · cases e

/-- WHAT A LOOKUP TELLS: nothing, or the entry's variable. -/
theorem run_lookPm (hE : E.good P = true) {w0 : World} {pr0 ow : Nat → Prop} {n : Nat} {tm : List (Nat × V)} {ob : List (Id × Obj)} {out : List (Nat × List (Nat × V))} {pa : Id} {a : Act} {ao : List (Array Value)} {w : World} {B : BM} {pr : Nat → Prop}
    (q : Sim gl w0 pr0 ow ⟨n, tm, ob, out, pa⟩ a ao w B pr) {t k e sz bt : Nat} {z : List V} {dk de : Ty} {o : Id} {fk : κ → V} {m : List (κ × α)} {kk : κ} {ok : Bool} {x i : Operand} (hf : KeyF fk)
    (ht : ety E t = some ⟨.map k e, sz, bt, z⟩) (hk : ety E k = some dk) (he : ety E e = some de) (hz : de.zero = [.nilp]) (hag : de.k.isAgg = false) (hx : ev tm x = .mapr o) (ho : oget ob o = some (.pmap (pmE fk none 0 m))) (hi : ev tm i = fk kk) (hkk : kKind dk.k (fk kk) = true) :
    (mget m kk = none → ∃ c, (Instr.lookup t (a.eval x) (a.eval i) ok).run P w = .ok c w ∧ RC w B pr (lookV .nilp ok none) c) ∧
    ∀ v, mget m kk = some v → ∃ c, (Instr.lookup t (a.eval x) (a.eval i) ok).run P w = .ok c w ∧ RC w B pr (lookV .nilp ok (some (.ptr (pid (mix kk m)) 0 0))) c := by
  have hxc := ev_rc q.tms x
  rw [hx] at hxc
  obtain ⟨bd, ms, clock, _, _, _, e1, e2, e3, _⟩ := q.pmapAt ho hxc
  have hic := ev_rc q.tms i
  rw [hi] at hic
  obtain ⟨u, hu, hkey, hk0⟩ := kKind_key (Env.ok hE hk) hkk hic
  obtain ⟨zi, zu, g1, g2, g3, g4, g5, g6, g7, zv, g8, g9, g10⟩ := (Env.ok hE he).ex
  have hzrun : (zeroValue e).run P w = .ok zv w := by simp [zeroValue, typeInfo, g1, g8]
  have hzrc : RC0 w pr .nilp zv := by
    have hj := justs_rc (w := w) (pr := pr) g9
    rw [hz] at hj
    rw [hag] at g10
    have hcells : zv.cells.toList = [zv] := by
      cases zv <;> simp [aggFits] at g10 <;> rfl
    rw [hcells] at hj
    cases hj with
    | cons h _ => exact h
  have key := pget_now hf hkey hk0 0 0 e3
  refine ⟨fun h0 => ?_, fun v hv => ?_⟩
  · have h2 := key.1 h0
    refine ⟨if ok then .tuple #[zv, .bool false] else zv, ?_, ?_⟩
    · simp [Instr.lookup, e1, run_underlying (ty_map (Env.ok hE ht)), MapKept.run_getObj_map e2, MapKept.run_checkKey hu hkey, MapKept.run_findKey hu h2, hzrun, Result.andThen]
    · cases ok with
      | true => exact .tup (.cons (.base hzrc) (.cons (.base (.bool _)) .nil))
      | false => exact .base hzrc
  · obtain ⟨d, h2, h3⟩ := key.2 v hv
    rw [Nat.zero_add] at h3
    refine ⟨if ok then .tuple #[d, .bool true] else d, ?_, ?_⟩
    · simp [Instr.lookup, e1, run_underlying (ty_map (Env.ok hE ht)), MapKept.run_getObj_map e2, MapKept.run_checkKey hu hkey, MapKept.run_findKey hu h2, Result.andThen]
    · cases ok with
      | true => exact .tup (.cons h3 (.cons (.base (.bool _)) .nil))
      | false => exact h3

theorem Sim.put {w0 : World} {pr0 ow : Nat → Prop} {n d : Nat} {tm : List (Nat × V)} {ob : List (Id × Obj)} {out : List (Nat × List (Nat × V))} {pa : Id} {a : Act} {ao : List (Array Value)} {w : World} {B : BM} {pr : Nat → Prop}
    (q : Sim gl w0 pr0 ow ⟨n, tm, ob, out, pa⟩ a ao w B pr) {v : V} {c : Value} (hn : Nat.blt d n = true) (hc : RC w B pr v c) : Sim gl w0 pr0 ow ⟨n, (d, v) :: tm, ob, out, pa⟩ (a.put (some d) c) ao w B pr :=
  { q with tms := q.tms.put (show d < n by simpa using hn) hc }

theorem SafeOps.lookP0 {M : Id} (fk : κ → V) (m : List (κ × α)) (kk : κ) (hE : E.good P = true) {l rest : List Oper} {op : Oper} {Q : Exit → St → Prop} {n d t : Nat} {x i : Operand} {k e sz bt : Nat} {z : List V} {dk de : Ty} {ok : Bool} {tm : List (Nat × V)} {ob : List (Id × Obj)} {out : List (Nat × List (Nat × V))} {pa : Id}
    (hf : KeyF fk) (hm : mget m kk = none) (hg : gd l tm op = some true) (hop : op.op = .lookup t x i ok) (hd : op.dst = some d) (hn : Nat.blt d n = true)
    (ht : ety E t = some ⟨.map k e, sz, bt, z⟩) (hk : ety E k = some dk) (he : ety E e = some de) (hz : de.zero = [.nilp]) (hag : de.k.isAgg = false) (hx : ev tm x = .mapr M) (ho : oget ob M = some (.pmap (pmE fk none 0 m))) (hi : ev tm i = fk kk) (hkk : kKind dk.k (fk kk) = true)
    (h : SafeOps r P gl l rest Q ⟨n, (d, lookV .nilp ok none) :: tm, ob, out, pa⟩) : SafeOps r P gl l (op :: rest) Q ⟨n, tm, ob, out, pa⟩ :=
  SafeOps.done hg fun w0 pr0 ow a ao w B pr hs K hK => by
    obtain ⟨c, hrun, hc⟩ := (run_lookPm (ok := ok) hE hs hf ht hk he hz hag hx ho hi hkk).1 hm
    refine wp_value (o := op) (c := c) (w' := w) (by unfold execOp; rw [hop]; simp [hrun, Result.andThen]) ?_
    rw [hd]
    exact hK _ _ (h _ _ _ _ _ _ _ _ (hs.put hn hc))

theorem pmo_ren {M : Id} {fk : κ → V} {f : α → List V} {j : Nat} {b o : Id} (hM : swp (pid j) b M = M) (hff : ∀ a b v, rens a b (f v) = f v) (hb : magic b = false) {m : List (κ × α)} {h h' : Option (Nat × Id)} (hh : (h = none ∧ h' = some (j, b)) ∨ (h = some (j, b) ∧ h' = none)) {m' : List (κ × α)} (hkey : m.map (·.1) = m'.map (·.1)) (hval : ∀ q, q ≠ j → m[q]? = m'[q]?)
    (ho : o ≠ pid j) (hob : o ≠ b) (hMm : magic M = false) : oget (renO (pid j) b (pmo M fk f h m)) o = oget (pmo M fk f h' m') o := by
  rw [renO_get, swp_def, if_neg ho, if_neg hob]
  by_cases e : M = o
  · subst e
    rw [pmo, pmo, oget_cons, oget_cons, if_pos rfl, if_pos rfl, ← pmE_keys 0 hkey]
    have := renP_pmE (fk := fk) (j := j) hb m 0
    rcases hh with ⟨rfl, rfl⟩ | ⟨rfl, rfl⟩
    · simp [Obj.ren, this.1]
    · simp [Obj.ren, this.2]
  · by_cases hq : ∃ q, pid q = o
    · obtain ⟨q, rfl⟩ := hq
      have hqj : q ≠ j := fun e => ho (by rw [e])
      rw [pmo_pid hMm, pmo_pid hMm, hval q hqj]
      have h1 : h.map (·.1) ≠ some q := by rcases hh with ⟨rfl, rfl⟩ | ⟨rfl, rfl⟩ <;> simp [Ne.symm hqj]
      have h2 : h'.map (·.1) ≠ some q := by rcases hh with ⟨rfl, rfl⟩ | ⟨rfl, rfl⟩ <;> simp [Ne.symm hqj]
      rw [if_pos h1, if_pos h2]
      cases m'[q]? with
      | none => rfl
      | some p => simp [Obj.ren, hff]
    · have hq' : ∀ q, pid q ≠ o := fun q e => hq ⟨q, e⟩
      rw [pmo, pmo, oget_cons, oget_cons, if_neg e, if_neg e, pmB_not hq', pmB_not hq']; rfl

theorem SafeOps.lookP1 {M : Id} (fk : κ → V) (f : α → List V) (m : List (κ × α)) (kk : κ) (v : α) (b : Id) (hE : E.good P = true) {l rest : List Oper} {op : Oper} {Q : Exit → St → Prop} {n d t : Nat} {x i : Operand} {k e sz bt : Nat} {z : List V} {dk de : Ty} {ok : Bool} {tm : List (Nat × V)} {ob ob' : List (Id × Obj)} {out : List (Nat × List (Nat × V))} {pa : Id}
    (hf : KeyF fk) (hm : mget m kk = some v) (hg : gd l tm op = some true) (hop : op.op = .lookup t x i ok) (hd : op.dst = some d) (hn : Nat.blt d n = true)
    (ht : ety E t = some ⟨.map k e, sz, bt, z⟩) (hk : ety E k = some dk) (he : ety E e = some de) (hz : de.zero = [.nilp]) (hag : de.k.isAgg = false) (hx : ev tm x = .mapr M) (ho : oget ob M = some (.pmap (pmE fk none 0 m))) (hi : ev tm i = fk kk) (hkk : kKind dk.k (fk kk) = true)
    (hM : swp (pid (mix kk m)) b M = M) (hb : magic b = false) (hMm : magic M = false) (hMb : M ≠ b) (hff : ∀ a b v, rens a b (f v) = f v)
    (tg : Tg false (pid (mix kk m)) b (pmo M fk f none m) (pmo M fk f (some (mix kk m, b)) (Go.AM.mput m kk v)) ob ob')
    (htm : renT (pid (mix kk m)) b tm = tm) (hout : renOut (pid (mix kk m)) b out = out)
    (h : SafeOps r P gl l rest Q ⟨n, (d, lookV .nilp ok (some (.ptr b 0 0))) :: tm, (b, .box (f v)) :: ob', out, pa⟩) : SafeOps r P gl l (op :: rest) Q ⟨n, tm, ob, out, pa⟩ :=
  SafeOps.done hg fun w0 pr0 ow a ao w B pr hs K hK => by
    obtain ⟨c, hrun, hc⟩ := (run_lookPm (ok := ok) hE hs hf ht hk he hz hag hx ho hi hkk).2 v hm
    refine wp_value (o := op) (c := c) (w' := w) (by unfold execOp; rw [hop]; simp [hrun, Result.andThen]) ?_
    rw [hd]
    have hab : pid (mix kk m) ≠ b := pid_not hb _
    have h1 := (hs.put hn hc).ren (pid (mix kk m)) b
    have hat := tg.at hab
    have hg' := mix_get hm
    have he : Eqv ⟨n, renT (pid (mix kk m)) b ((d, lookV .nilp ok (some (.ptr (pid (mix kk m)) 0 0))) :: tm), renO (pid (mix kk m)) b ob, renOut (pid (mix kk m)) b out, pa⟩ ⟨n, (d, lookV .nilp ok (some (.ptr b 0 0))) :: tm, (b, .box (f v)) :: ob', out, pa⟩ := ⟨rfl, fun t => ?_, fun o => ?_, hout, rfl⟩
    · exact hK _ _ (h _ _ _ _ _ _ _ _ (h1.eqv he))
    · simp only [renT, htm]
      have : (lookV .nilp ok (some (.ptr (pid (mix kk m)) 0 0))).ren (pid (mix kk m)) b = lookV .nilp ok (some (.ptr b 0 0)) := by
        cases ok <;> simp [lookV, V.ren, rens, swp_def]
      rw [this]
    · rw [mput_same hm] at hat
      simp only [oget_cons]
      by_cases e1 : b = o
      · subst e1
        rw [if_pos rfl, renO_get, swp_def, if_neg (Ne.symm hab), if_pos rfl, hat.2.1, pmo_pid hMm, if_pos (by simp), hg'.1]
        simp [Obj.ren, hff]
      · rw [if_neg e1]
        by_cases e2 : o = pid (mix kk m)
        · subst e2
          rw [hat.1, pmo_pid hMm, if_neg (by simp), renO_get, swp_def, if_pos rfl, hat.2.2.2 rfl, pmo, oget_cons, if_neg hMb, pmB_not (pid_not hb)]
          rfl
        · refine tg.get hab e2 (pmo_ren hM hff hb (.inl ⟨rfl, rfl⟩) ?_ ?_ e2 (Ne.symm e1) hMm)
          · rw [mput_same hm]
          · intro q _; rw [mput_same hm]

/-- A NEW ENTRY: it points to a variable of the call's own. -/
theorem SafeOps.putP {M : Id} (fk : κ → V) (f : α → List V) (m : List (κ × α)) (kk : κ) (v : α) (b : Id) (hE : E.good P = true) {l rest : List Oper} {op : Oper} {Q : Exit → St → Prop} {n t : Nat} {x i y : Operand} {k e sz bt : Nat} {z : List V} {dk : Ty} {tm : List (Nat × V)} {ob ob' : List (Id × Obj)} {out : List (Nat × List (Nat × V))} {pa : Id}
    (hf : KeyF fk) (hm : mget m kk = none) (hg : gd l tm op = some true) (hop : op.op = .mapUpdate t x i y ∨ op.op = .insert t x i y) (hd : op.dst = none)
    (ht : ety E t = some ⟨.map k e, sz, bt, z⟩) (hk : ety E k = some dk) (hx : ev tm x = .mapr M) (ho : oget ob M = some (.pmap (pmE fk none 0 m))) (hi : ev tm i = fk kk) (hkk : kKind dk.k (fk kk) = true) (hy : ev tm y = .ptr b 0 0)
    (hMm : magic M = false) (tt : Tt (pmo M fk f none m) (pmo M fk f (some (mix kk m, b)) (Go.AM.mput m kk v)) ob ob') (ho' : oget ob' M = some (.pmap (pmE fk (some (mix kk m, b)) 0 (Go.AM.mput m kk v))))
    (h : SafeOps r P gl l rest Q ⟨n, tm, ob', out, pa⟩) : SafeOps r P gl l (op :: rest) Q ⟨n, tm, ob, out, pa⟩ :=
  SafeOps.done hg fun w0 pr0 ow a ao w B pr hsim K hK => by
    have hxc := ev_rc hsim.tms x
    rw [hx] at hxc
    obtain ⟨bd, ms, clock, hB, hnp, hlt, e1, e2, e3, est⟩ := hsim.pmapAt ho hxc
    have hic := ev_rc hsim.tms i
    rw [hi] at hic
    obtain ⟨u, hu, hkey, hk0⟩ := kKind_key (Env.ok hE hk) hkk hic
    have hv0 := ev_rc hsim.tms y
    rw [hy] at hv0
    have h1 := (pget_now hf hkey hk0 0 0 e3).1 hm
    have hno := mix_no hm
    have hrun : (Instr.mapUpdate t (a.eval x) (a.eval i) (a.eval y)).run P w = .ok () { w with heap := w.heap.setIfInBounds bd.b (.map (ms.push ⟨a.eval i, a.eval y, clock⟩) (clock + 1)) } := by
      simp [Instr.mapUpdate, e1, run_underlying (ty_map (Env.ok hE ht)), MapKept.run_getObj_map e2, MapKept.run_checkKey hu hkey, MapKept.run_findKey hu h1, MapKept.run_setObj_map _ e2, Result.andThen]
    have hrc : RCp w B pr (pmE fk (some (mix kk m, b)) 0 (Go.AM.mput m kk v)) (ms.push ⟨a.eval i, a.eval y, clock⟩).toList := by
      rw [Array.toList_push, hno.2 v, hno.1]
      have gen : ∀ (m : List (κ × α)) (j N : Nat) (ms : List MapEntry), j + m.length = N → RCp w B pr (pmE fk none j m) ms → RCp w B pr (pmE fk (some (N, b)) j (m ++ [(kk, v)])) (ms ++ [⟨a.eval i, a.eval y, clock⟩]) := by
        intro m
        induction m with
        | nil =>
          intro j N ms e q
          cases ms with
          | nil =>
            simp at e; subst e
            simp only [List.nil_append, pmE, hid, if_pos]
            exact ⟨hk0, hv0, trivial⟩
          | cons _ _ => exact q.elim
        | cons p m ih =>
          intro j N ms e q
          cases ms with
          | nil => exact q.elim
          | cons e0 ms =>
            simp only [List.length_cons] at e
            refine ⟨q.1, ?_, ih (j + 1) N ms (by omega) q.2.2⟩
            simp only [hid]
            rw [if_neg (by omega)]
            exact q.2.1
      exact gen m 0 _ _ (by simp) e3
    obtain ⟨hone, hget⟩ := One.put (o' := .map (ms.push ⟨a.eval i, a.eval y, clock⟩) (clock + 1)) e2
    have hlk : Like pr w ({ w with heap := w.heap.setIfInBounds bd.b (.map (ms.push ⟨a.eval i, a.eval y, clock⟩) (clock + 1)) } : World) := fun b hb => hone.block b (fun e => hnp (e ▸ hb))
    have hsim' := hsim.upd (x' := .pmap (pmE fk (some (mix kk m, b)) 0 (Go.AM.mput m kk v))) ho (by simp) (by simp) hB hnp hone ⟨hnp, by rw [hone.size]; exact hlt, _, _, hget, hrc.move hlk (fun _ h => h) (fun _ _ h => h), est.push _ _⟩
    have he : Eqv ⟨n, tm, (M, .pmap (pmE fk (some (mix kk m, b)) 0 (Go.AM.mput m kk v))) :: ob, out, pa⟩ ⟨n, tm, ob', out, pa⟩ := ⟨rfl, fun _ => rfl, fun o => by
      simp only [oget_cons]
      by_cases e : M = o
      · subst e; rw [if_pos rfl, ho']
      · rw [if_neg e]
        refine tt.get ?_
        rw [pmo, pmo, oget_cons, oget_cons, if_neg e, if_neg e]
        by_cases hq : ∃ q, pid q = o
        · obtain ⟨q, rfl⟩ := hq
          have g1 := pmo_pid (fk := fk) (f := f) (h := none) (m := m) hMm q
          have g2 := pmo_pid (fk := fk) (f := f) (h := some (mix kk m, b)) (m := Go.AM.mput m kk v) hMm q
          rw [pmo, oget_cons, if_neg e] at g1 g2
          rw [g1, g2, if_pos (by simp), hno.2 v, hno.1]
          by_cases eq : q = m.length
          · subst eq; simp
          · rw [if_pos (by simpa using Ne.symm eq)]
            by_cases hl : q < m.length
            · rw [List.getElem?_append_left hl]
            · rw [List.getElem?_eq_none (l := m) (by omega), List.getElem?_eq_none (by rw [List.length_append, List.length_singleton]; omega)]
        · have hq' : ∀ q, pid q ≠ o := fun q e => hq ⟨q, e⟩
          rw [pmB_not hq', pmB_not hq'], rfl, rfl⟩
    have hsim2 := hsim'.eqv he
    unfold Oper.wp execOp
    rcases hop with hop | hop <;>
    · rw [hop]
      simp only [hrun, Sem.run_bind, Result.andThen_ok, Sem.run_pure, Oper.upon]
      rw [hd]
      exact hK _ _ (h _ _ _ _ _ _ _ _ hsim2)

theorem Sim.giveP {M : Id} (fk : κ → V) (f : α → List V) (m : List (κ × α)) (kk : κ) (v v' : α) (b : Id) {w0 : World} {pr0 ow : Nat → Prop} {n : Nat} {tm : List (Nat × V)} {ob ob' : List (Id × Obj)} {out : List (Nat × List (Nat × V))} {pa : Id} {a : Act} {ao : List (Array Value)} {w : World} {B : BM} {pr : Nat → Prop}
    (hs : Sim gl w0 pr0 ow ⟨n, tm, ob, out, pa⟩ a ao w B pr) (hb' : oget ob b = some (.box (f v')))
    (hM : swp (pid (mix kk m)) b M = M) (hb : magic b = false) (hMm : magic M = false) (hMb : idEq M b = false) (hff : ∀ a b v, rens a b (f v) = f v)
    (tg : Tg true (pid (mix kk m)) b (pmo M fk f (some (mix kk m, b)) (Go.AM.mput m kk v)) (pmo M fk f none (Go.AM.mput m kk v')) ob ob')
    (htm : renT (pid (mix kk m)) b tm = tm) (hout : renOut (pid (mix kk m)) b out = out) : Sim gl w0 pr0 ow ⟨n, tm, ob', out, pa⟩ a ao w (renB (pid (mix kk m)) b B) pr := by
  have hab : pid (mix kk m) ≠ b := pid_not hb _
  have hMb : M ≠ b := fun e => by rw [idEq_iff.2 e] at hMb; cases hMb
  have hat := tg.at hab
  have p1 := mget_put (k := kk) v m
  have p2 := mget_put (k := kk) v' m
  have q1 := mix_get p1.1
  have q2 := mix_get p2.1
  have e12 : Go.AM.mput m kk v' = (Go.AM.mput m kk v).set (mix kk m) (kk, v') := by rw [← p1.2.2 v', q1.2 v', p1.2.1]
  have he : Eqv ⟨n, renT (pid (mix kk m)) b tm, renO (pid (mix kk m)) b ob, renOut (pid (mix kk m)) b out, pa⟩ ⟨n, tm, ob', out, pa⟩ := ⟨rfl, fun t => by rw [htm], fun o => ?_, hout, rfl⟩
  · exact (hs.ren (pid (mix kk m)) b).eqv he
  simp only
  by_cases e1 : b = o
  · subst e1
    rw [renO_get, swp_def, if_neg (Ne.symm hab), if_pos rfl, hat.2.1, hat.2.2.1, pmo_pid hMm, if_neg (by simp), pmo, oget_cons, if_neg hMb, pmB_not (pid_not hb)]
    rfl
  · by_cases e2 : o = pid (mix kk m)
    · subst e2
      rw [hat.1, pmo_pid hMm, if_pos (by simp), renO_get, swp_def, if_pos rfl, hb', ← p2.2.1, q2.1]
      simp [Obj.ren, hff]
    · refine tg.get hab e2 (pmo_ren hM hff hb (.inr ⟨rfl, rfl⟩) ?_ ?_ e2 (Ne.symm e1) hMm)
      · rw [e12, List.map_set]
        have : (Go.AM.mput m kk v)[mix kk m]? = some (kk, v) := by rw [← p1.2.1]; exact q1.1
        apply List.ext_getElem?
        intro q
        rw [List.getElem?_set]
        split
        · rename_i e; subst e
          rw [List.getElem?_map, this]
          split
          · rfl
          · rename_i hl; simp only [List.length_map] at hl; rw [List.getElem?_eq_none (by omega)] at this; cases this
        · rfl
      · intro q hq
        rw [e12, List.getElem?_set_ne (Ne.symm hq)]
theorem SafeOps.giveP {M : Id} (fk : κ → V) (f : α → List V) (m : List (κ × α)) (kk : κ) (v v' : α) (b : Id) {l rest : List Oper} {Q : Exit → St → Prop} {n : Nat} {tm : List (Nat × V)} {ob ob' : List (Id × Obj)} {out : List (Nat × List (Nat × V))} {pa : Id}
    (hb' : oget ob b = some (.box (f v')))
    (hM : swp (pid (mix kk m)) b M = M) (hb : magic b = false) (hMm : magic M = false) (hMb : idEq M b = false) (hff : ∀ a b v, rens a b (f v) = f v)
    (tg : Tg true (pid (mix kk m)) b (pmo M fk f (some (mix kk m, b)) (Go.AM.mput m kk v)) (pmo M fk f none (Go.AM.mput m kk v')) ob ob')
    (htm : renT (pid (mix kk m)) b tm = tm) (hout : renOut (pid (mix kk m)) b out = out)
    (h : SafeOps r P gl l rest Q ⟨n, tm, ob', out, pa⟩) : SafeOps r P gl l rest Q ⟨n, tm, ob, out, pa⟩ := fun w0 pr0 ow a ao w B pr hs => h _ _ _ _ _ _ _ _ (hs.giveP fk f m kk v v' b hb' hM hb hMm hMb hff tg htm hout)
theorem Safe.giveP {M : Id} (fk : κ → V) (f : α → List V) (m : List (κ × α)) (kk : κ) (v v' : α) (b : Id) {c : Code} {Q : Exit → St → Prop} {n : Nat} {tm : List (Nat × V)} {ob ob' : List (Id × Obj)} {out : List (Nat × List (Nat × V))} {pa : Id}
    (hb' : oget ob b = some (.box (f v')))
    (hM : swp (pid (mix kk m)) b M = M) (hb : magic b = false) (hMm : magic M = false) (hMb : idEq M b = false) (hff : ∀ a b v, rens a b (f v) = f v)
    (tg : Tg true (pid (mix kk m)) b (pmo M fk f (some (mix kk m, b)) (Go.AM.mput m kk v)) (pmo M fk f none (Go.AM.mput m kk v')) ob ob')
    (htm : renT (pid (mix kk m)) b tm = tm) (hout : renOut (pid (mix kk m)) b out = out)
    (h : Safe r P gl c Q ⟨n, tm, ob', out, pa⟩) : Safe r P gl c Q ⟨n, tm, ob, out, pa⟩ := fun w0 pr0 ow a ao w B pr hs => h _ _ _ _ _ _ _ _ (hs.giveP fk f m kk v v' b hb' hM hb hMm hMb hff tg htm hout)
/-- An empty map may get such entries. -/
theorem Safe.toPm (M : Id) {c : Code} {Q : Exit → St → Prop} {n : Nat} {tm : List (Nat × V)} {ob : List (Id × Obj)} {out : List (Nat × List (Nat × V))} {pa : Id} (ho : oget ob M = some (.map []))
    (h : Safe r P gl c Q ⟨n, tm, (M, .pmap []) :: ob, out, pa⟩) : Safe r P gl c Q ⟨n, tm, ob, out, pa⟩ := fun w0 pr0 ow a ao w B pr hs => by
  refine h _ _ _ _ _ _ B pr ?_
  rcases hs.obs M _ ho with ⟨g1, _⟩ | ⟨_, ⟨bd, hB, ⟨q1, q2, ms, clock, q3, q4, q5⟩, _⟩ | ⟨_, _, _, e⟩⟩
  · cases g1
  · refine hs.upd ho (by simp) (by simp) hB q1 ⟨rfl, rfl, rfl, Nat.le_refl _, rfl, fun _ _ => rfl⟩ ⟨q1, q2, ms, clock, q3, ?_, q5⟩
    cases hms : ms.toList with
    | nil => trivial
    | cons _ _ => rw [hms] at q4; exact q4.elim
  · cases e
def mcase {β K : Type} (o : Option β) (a : K) (f : β → K) : K := match o with | none => a | some v => f v
theorem mcaseG {β K : Type} {o : Option β} {a : K} {f : β → K} {ρ : K} {G : Prop} (h : mcase o a f = ρ) (h0 : o = none → a = ρ → G) (h1 : ∀ v, o = some v → f v = ρ → G) : G := by
  cases o with
  | none => exact h0 rfl h
  | some v => exact h1 v rfl h
/-- Names that change places ahead of such a map. -/
def renOt (a b : Id) : List (Id × Obj) → List (Id × Obj)
  | [] => []
  | (o, x) :: r => match x with
    | .pmap es => (o, .pmap es) :: r
    | x => (swp a b o, x.ren a b) :: renOt a b r
def Obj.isPm : Obj → Bool
  | .pmap _ => true
  | _ => false
inductive Tp (t : List (Id × Obj)) : List (Id × Obj) → Prop
  | here : Tp t t
  | cons {o : Id} {x : Obj} {ob : List (Id × Obj)} (h : x.isPm = false) (r : Tp t ob) : Tp t ((o, x) :: ob)
theorem renP_fix {κ α : Type} {a b : Id} {fk : κ → V} {h : Option (Nat × Id)} (hh : ∀ j, swp a b (hid h j) = hid h j) : ∀ (m : List (κ × α)) (j : Nat), renP a b (pmE fk h j m) = pmE fk h j m
  | [], _ => rfl
  | (k, v) :: r, j => by simp only [pmE, renP, V.ren, hh, renP_fix hh r (j + 1)]
theorem swp_other {a b o : Id} (ha : o ≠ a) (hb : o ≠ b) : swp a b o = o := by rw [swp_def, if_neg ha, if_neg hb]
theorem Gets.renp {κ α : Type} {M : Id} (fk : κ → V) (f : α → List V) (h : Option (Nat × Id)) (m : List (κ × α)) (a b : Id) {n : Nat} {tm : List (Nat × V)} {ob : List (Id × Obj)} {out : List (Nat × List (Nat × V))} {pa : Id} {τ : St}
    (ha : magic a = false) (hb : magic b = false) (hMm : magic M = false) (hMa : idEq M a = false) (hMb : idEq M b = false) (hff : ∀ a b v, rens a b (f v) = f v) (hI : ∀ j I, h = some (j, I) → swp a b I = I)
    (tp : Tp (pmo M fk f h m) ob) (hg : Gets gl ⟨n, renT a b tm, renOt a b ob, renOut a b out, pa⟩ τ) : Gets gl ⟨n, tm, ob, out, pa⟩ τ := by
  have hMa : M ≠ a := fun e => by rw [idEq_iff.2 e] at hMa; cases hMa
  have hMb : M ≠ b := fun e => by rw [idEq_iff.2 e] at hMb; cases hMb
  have hpid : ∀ q, swp a b (pid q) = pid q := fun q => swp_other (pid_not ha q) (pid_not hb q)
  have hid' : ∀ j, swp a b (hid h j) = hid h j := fun j => by
    cases h with
    | none => exact hpid j
    | some x =>
      obtain ⟨i, I⟩ := x
      simp only [hid]
      split
      · exact hI i I rfl
      · exact hpid j
  have htail : ∀ o, oget (renO a b (pmo M fk f h m)) o = oget (pmo M fk f h m) o := fun o => by
    rw [renO_get]
    have hno : ∀ o', magic o' = false → M ≠ o' → oget (pmo M fk f h m) o' = none := fun o' h1 h2 => by
      rw [pmo, oget_cons, if_neg h2]; exact pmB_not (pid_not h1) m 0
    by_cases ea : o = a
    · subst ea; rw [hno o ha hMa, swp_def, if_pos rfl, hno b hb hMb]; rfl
    · by_cases eb : o = b
      · subst eb; rw [hno o hb hMb, swp_def, if_neg ea, if_pos rfl, hno a ha hMa]; rfl
      · rw [swp_other ea eb]
        by_cases e : M = o
        · subst e; rw [pmo, oget_cons, if_pos rfl]; simp [Obj.ren, renP_fix hid']
        · by_cases hq : ∃ q, pid q = o
          · obtain ⟨q, rfl⟩ := hq
            rw [pmo_pid hMm]
            split
            · cases m[q]? with
              | none => rfl
              | some p => simp [Obj.ren, hff]
            · rfl
          · rw [pmo, oget_cons, if_neg e, pmB_not (fun q e => hq ⟨q, e⟩)]; rfl
  have key : ∀ o, oget (renO a b ob) o = oget (renOt a b ob) o := by
    clear hg
    intro o
    induction tp with
    | here => exact htail o
    | cons h1 _ ih =>
      rename_i x _ _
      cases x <;> first | (cases h1; done) | (simp only [renO, renOt, oget_cons]; rw [ih])
  exact .ren a b (.eqv (σ' := ⟨n, renT a b tm, renOt a b ob, renOut a b out, pa⟩) ⟨rfl, fun _ => rfl, key, rfl, rfl⟩ hg)
theorem fr1 {κ α : Type} {M : Id} {fk : κ → V} {f : α → List V} {h : Option (Nat × Id)} {m : List (κ × α)} {ob : List (Id × Obj)} {k : Id} {x : Obj} (t : Tf k (pmo M fk f h m) ob) (hk : magic k = false := by rfl) (hM : idEq M k = false := by rfl) : fresh ob [(k, x)] = true :=
  fresh_cons (fr_tl hk hM t) rfl
theorem fo1 {κ α : Type} {M : Id} {fk : κ → V} {f : α → List V} {h : Option (Nat × Id)} {m : List (κ × α)} {ob : List (Id × Obj)} {k : Id} (t : Tf k (pmo M fk f h m) ob) (hk : magic k = false := by rfl) (hM : idEq M k = false := by rfl) : oget ob k = none := fr_tl hk hM t
end Go.AM
