/- Helper lemmas for the claim's theorem: an abstract machine over the model, proved sound; no condition beyond each lemma's own. -/
import Derived.Test.YtoapmmcoaggekaaAmJ
set_option linter.unusedVariables false
set_option linter.unusedSimpArgs false
set_option linter.unnecessarySimpa false
set_option linter.unusedSectionVars false
/- Maps whose entries point to variables of the call's own. -/
namespace Go.AM
open Go Go.RowKit
variable {r : Bool} {P : Program} {E : Env} {gl : List (Nat × List V)}

/-- Names of the entries' variables. -/
def pid (j : Nat) : Id := [4294967295, j]
def magic : Id → Bool
  | a :: _ => Nat.beq a 4294967295
  | [] => false
def hid (h : Option (Nat × Id)) (j : Nat) : Id := match h with
  | some (i, b) => if i = j then b else pid j
  | none => pid j
section
variable {κ α : Type}
def pmE (fk : κ → V) (h : Option (Nat × Id)) : Nat → List (κ × α) → List (V × V)
  | _, [] => []
  | j, (k, _) :: r => (fk k, .ptr (hid h j) 0 0) :: pmE fk h (j + 1) r
def pmB (f : α → List V) (h : Option (Nat × Id)) : Nat → List (κ × α) → List (Id × Obj)
  | _, [] => []
  | j, (_, v) :: r => if h.map (·.1) = some j then pmB f h (j + 1) r else (pid j, .box (f v)) :: pmB f h (j + 1) r
/-- Such a map, and its entries' variables; one of them may have a name of its own, and be told elsewhere. -/
def pmo (M : Id) (fk : κ → V) (f : α → List V) (h : Option (Nat × Id)) (m : List (κ × α)) : List (Id × Obj) := (M, .pmap (pmE fk h 0 m)) :: pmB f h 0 m
/-- At which place a key stands. -/
def mix [DecidableEq κ] (k : κ) : List (κ × α) → Nat
  | [] => 0
  | (x, _) :: r => if k = x then 0 else mix k r + 1

theorem pid_inj {i j : Nat} (h : pid i = pid j) : i = j := by simpa [pid] using h
theorem pid_not {o : Id} (h : magic o = false) (q : Nat) : pid q ≠ o := fun e => by subst e; simp [magic, pid] at h
theorem pmB_not {f : α → List V} {h : Option (Nat × Id)} {o : Id} (ho : ∀ q, pid q ≠ o) : ∀ (m : List (κ × α)) (j : Nat), oget (pmB f h j m) o = none
  | [], _ => rfl
  | (k, v) :: r, j => by
    simp only [pmB]
    split
    · exact pmB_not ho r (j + 1)
    · rw [oget_cons, if_neg (ho j)]; exact pmB_not ho r (j + 1)
theorem pmB_pid {f : α → List V} {h : Option (Nat × Id)} (q : Nat) : ∀ (m : List (κ × α)) (j : Nat), oget (pmB f h j m) (pid q) = if j ≤ q ∧ h.map (·.1) ≠ some q then (m[q - j]?).map (fun p => Obj.box (f p.2)) else none
  | [], j => by simp [pmB, oget]
  | (k, v) :: r, j => by
    simp only [pmB]
    have ih := pmB_pid (f := f) (h := h) q r (j + 1)
    split
    · rename_i hj
      rw [ih]
      by_cases e : j = q
      · subst e; rw [if_neg (by omega), if_neg (fun x => x.2 hj)]
      · by_cases c : j ≤ q ∧ h.map (·.1) ≠ some q
        · rw [if_pos ⟨by omega, c.2⟩, if_pos c, show q - j = (q - (j + 1)) + 1 by omega]; rfl
        · rw [if_neg c, if_neg (fun x => c ⟨by omega, x.2⟩)]
    · rename_i hj
      rw [oget_cons]
      by_cases e : j = q
      · subst e; rw [if_pos rfl, if_pos ⟨Nat.le_refl _, hj⟩, Nat.sub_self]; rfl
      · rw [if_neg (fun x => e (pid_inj x)), ih]
        by_cases c : j ≤ q ∧ h.map (·.1) ≠ some q
        · rw [if_pos ⟨by omega, c.2⟩, if_pos c, show q - j = (q - (j + 1)) + 1 by omega]; rfl
        · rw [if_neg c, if_neg (fun x => c ⟨by omega, x.2⟩)]
theorem swp_pid {j : Nat} {b : Id} (hb : magic b = false) (i : Nat) : swp (pid j) b (pid i) = hid (some (j, b)) i := by
  rw [swp_def]
  simp only [hid]
  by_cases e : j = i
  · subst e; simp
  · rw [if_neg (fun q => e (pid_inj q).symm), if_neg (pid_not hb i), if_neg e]
theorem swp_hid {j : Nat} {b : Id} (hb : magic b = false) (i : Nat) : swp (pid j) b (hid (some (j, b)) i) = pid i := by rw [← swp_pid hb, swp_swp]
theorem renP_pmE {fk : κ → V} {j : Nat} {b : Id} (hb : magic b = false) : ∀ (m : List (κ × α)) (i : Nat), renP (pid j) b (pmE fk none i m) = pmE fk (some (j, b)) i m ∧ renP (pid j) b (pmE fk (some (j, b)) i m) = pmE fk none i m
  | [], _ => ⟨rfl, rfl⟩
  | (k, v) :: r, i => by
    have ih := renP_pmE (fk := fk) (j := j) hb r (i + 1)
    simp only [pmE, renP, V.ren, ih.1, ih.2, hid, swp_pid hb]
    have := swp_hid hb (j := j) i
    simp only [hid] at this
    rw [this]
    trivial
theorem pmE_keys {α' : Type} {fk : κ → V} {h : Option (Nat × Id)} : ∀ {m : List (κ × α)} {m' : List (κ × α')} (j : Nat), m.map (·.1) = m'.map (·.1) → pmE fk h j m = pmE fk h j m'
  | [], [], _, _ => rfl
  | [], _ :: _, _, e => by simp at e
  | _ :: _, [], _, e => by simp at e
  | (k, v) :: r, (k', v') :: r', j, e => by
    simp only [List.map_cons, List.cons.injEq] at e
    simp only [pmE, e.1, pmE_keys (j + 1) e.2]

section
variable [DecidableEq κ]
theorem mix_get {k : κ} {v : α} : ∀ {m : List (κ × α)}, mget m k = some v → m[mix k m]? = some (k, v) ∧ ∀ u, mput m k u = m.set (mix k m) (k, u)
  | [], h => by cases h
  | (x, y) :: r, h => by
    simp only [mget] at h
    simp only [mix, mput]
    by_cases e : k = x
    · subst e
      rw [if_pos rfl] at h ⊢
      injection h with h; subst h
      exact ⟨rfl, fun u => by rw [if_pos rfl]; rfl⟩
    · rw [if_neg e] at h ⊢
      have ih := mix_get h
      exact ⟨by simpa using ih.1, fun u => by rw [if_neg e, ih.2 u]; rfl⟩
theorem mix_no {k : κ} : ∀ {m : List (κ × α)}, mget m k = none → mix k m = m.length ∧ ∀ u, mput m k u = m ++ [(k, u)]
  | [], _ => ⟨rfl, fun _ => rfl⟩
  | (x, y) :: r, h => by
    simp only [mget] at h
    simp only [mix, mput]
    by_cases e : k = x
    · rw [if_pos e] at h; cases h
    · rw [if_neg e] at h ⊢
      have ih := mix_no h
      exact ⟨by simp [ih.1], fun u => by rw [if_neg e, ih.2 u]; rfl⟩
theorem mget_put {k : κ} (u : α) : ∀ (m : List (κ × α)), mget (mput m k u) k = some u ∧ mix k (mput m k u) = mix k m ∧ ∀ v, mput (mput m k u) k v = mput m k v
  | [] => by simp [mput, mget, mix]
  | (x, y) :: r => by
    have ih := mget_put (k := k) u r
    simp only [mput]
    by_cases e : k = x
    · simp [e, mget, mix, mput]
    · rw [if_neg e]
      simp only [mget, mix, mput, if_neg e, ih.1, ih.2.1, true_and]
      intro v; rw [ih.2.2 v]
theorem mput_same {k : κ} {v : α} : ∀ {m : List (κ × α)}, mget m k = some v → mput m k v = m
  | [], h => by cases h
  | (x, y) :: r, h => by
    simp only [mget] at h
    simp only [mput]
    by_cases e : k = x
    · rw [if_pos e] at h ⊢; injection h with h; rw [h, e]
    · rw [if_neg e] at h ⊢; rw [mput_same h]
end

/-- A state told anew around such a map: the same objects ahead of it, but for those of one name. -/
inductive Tg (dr : Bool) (a b : Id) (t t' : List (Id × Obj)) : List (Id × Obj) → List (Id × Obj) → Prop
  | here : Tg dr a b t t' t t'
  | cons {o : Id} {x : Obj} {ob ob' : List (Id × Obj)} (h1 : swp a b o = o) (h2 : x.ren a b = x) (r : Tg dr a b t t' ob ob') : Tg dr a b t t' ((o, x) :: ob) ((o, x) :: ob')
  | drop {o : Id} {x : Obj} {ob ob' : List (Id × Obj)} (hd : dr = true) (h : o = b) (r : Tg dr a b t t' ob ob') : Tg dr a b t t' ((o, x) :: ob) ob'
theorem swp_fix {a b o : Id} (hab : a ≠ b) (h : swp a b o = o) : o ≠ a ∧ o ≠ b := by
  rw [swp_def] at h
  constructor
  · intro e
    rw [if_pos e] at h; exact hab (by rw [← e, h])
  · intro e
    rw [if_neg (fun e2 : o = a => hab (by rw [← e2, e])), if_pos e] at h; exact hab (by rw [h, e])
theorem Tg.get {dr : Bool} {a b : Id} {t t' ob ob' : List (Id × Obj)} (hab : a ≠ b) (h : Tg dr a b t t' ob ob') {o : Id} (ha : o ≠ a) (ht : oget (renO a b t) o = oget t' o) : oget (renO a b ob) o = oget ob' o := by
  induction h with
  | here => exact ht
  | cons h1 h2 _ ih => simp only [renO, h1, h2, oget_cons, ih]
  | drop _ e _ ih =>
    subst e
    simp only [renO, oget_cons]
    rw [if_neg, ih]
    rw [swp_def, if_neg (Ne.symm hab), if_pos rfl]
    exact Ne.symm ha
theorem Tg.at {dr : Bool} {a b : Id} {t t' ob ob' : List (Id × Obj)} (hab : a ≠ b) (h : Tg dr a b t t' ob ob') : oget ob' a = oget t' a ∧ oget ob a = oget t a ∧ oget ob' b = oget t' b ∧ (dr = false → oget ob b = oget t b) := by
  induction h with
  | here => exact ⟨rfl, rfl, rfl, fun _ => rfl⟩
  | cons h1 h2 _ ih => simp only [oget_cons, if_neg (swp_fix hab h1).1, if_neg (swp_fix hab h1).2]; exact ih
  | drop hd e _ ih =>
    subst e
    refine ⟨ih.1, ?_, ih.2.2.1, fun h => by rw [h] at hd; cases hd⟩
    rw [oget_cons, if_neg (Ne.symm hab)]
    exact ih.2.1
/-- The same objects ahead. -/
inductive Tt (t t' : List (Id × Obj)) : List (Id × Obj) → List (Id × Obj) → Prop
  | here : Tt t t' t t'
  | cons {p : Id × Obj} {ob ob' : List (Id × Obj)} (r : Tt t t' ob ob') : Tt t t' (p :: ob) (p :: ob')
theorem Tt.get {t t' ob ob' : List (Id × Obj)} (h : Tt t t' ob ob') {o : Id} (ht : oget t o = oget t' o) : oget ob o = oget ob' o := by
  induction h with
  | here => exact ht
  | cons _ ih => rw [show ∀ (p : Id × Obj) r, oget (p :: r) o = if p.1 = o then some p.2 else oget r o from fun p r => oget_cons p.1 p.2 r o, show ∀ (p : Id × Obj) r, oget (p :: r) o = if p.1 = o then some p.2 else oget r o from fun p r => oget_cons p.1 p.2 r o, ih]
/-- Nothing ahead has such a name. -/
inductive Tn (t : List (Id × Obj)) : List (Id × Obj) → Prop
  | here : Tn t t
  | cons {o : Id} {x : Obj} {ob : List (Id × Obj)} (h : magic o = false) (r : Tn t ob) : Tn t ((o, x) :: ob)
theorem Tn.get {t ob : List (Id × Obj)} (h : Tn t ob) (q : Nat) : oget ob (pid q) = oget t (pid q) := by
  induction h with
  | here => rfl
  | cons h _ ih => rw [oget_cons, if_neg (fun e => pid_not h q e.symm)]; exact ih
/-- Nothing ahead has this name. -/
inductive Tf (k : Id) (t : List (Id × Obj)) : List (Id × Obj) → Prop
  | here : Tf k t t
  | cons {o : Id} {x : Obj} {ob : List (Id × Obj)} (h : idEq o k = false) (r : Tf k t ob) : Tf k t ((o, x) :: ob)
theorem Tf.get {k : Id} {t ob : List (Id × Obj)} (h : Tf k t ob) : oget ob k = oget t k := by
  induction h with
  | here => rfl
  | cons h _ ih => simp only [oget, h]; exact ih

section
variable {M : Id} {fk : κ → V} {f : α → List V} {h : Option (Nat × Id)} {m : List (κ × α)} {ob : List (Id × Obj)}
theorem fr_tl {k : Id} (hk : magic k = false) (hM : idEq M k = false) (t : Tf k (pmo M fk f h m) ob) : oget ob k = none := by
  rw [t.get]
  simp only [pmo, oget, hM]
  exact pmB_not (pid_not hk) m 0
theorem fresh_cons {k : Id} {x : Obj} {nw : List (Id × Obj)} (h : oget ob k = none) (t : fresh ob nw = true) : fresh ob ((k, x) :: nw) = true := by
  simp only [fresh, h]; exact t
theorem pmo_pid (hM : magic M = false) (q : Nat) : oget (pmo M fk f h m) (pid q) = if h.map (·.1) ≠ some q then (m[q]?).map (fun p => Obj.box (f p.2)) else none := by
  rw [pmo, oget_cons, if_neg (fun e => pid_not hM q e.symm), pmB_pid, Nat.sub_zero]
  by_cases e : h.map (·.1) = some q
  · rw [if_neg (fun x => x.2 e), if_neg (fun x => x e)]
  · rw [if_pos ⟨Nat.zero_le _, e⟩, if_pos e]
theorem upOb_pmB (tn : ∀ q, oget ob (pid q) = if h.map (·.1) ≠ some q then (m[q]?).map (fun p => Obj.box (f p.2)) else none) : ∀ (l : List (κ × α)) (j : Nat), m.drop j = l → upOb ob (pmB f h j l)
  | [], _, _ => trivial
  | (k, v) :: r, j, e => by
    have hr : m.drop (j + 1) = r := by rw [← List.drop_drop, e]; rfl
    simp only [pmB]
    split
    · exact upOb_pmB tn r (j + 1) hr
    · rename_i hj
      refine ⟨⟨.box (f v), ?_, .refl _⟩, upOb_pmB tn r (j + 1) hr⟩
      rw [tn j, if_pos hj]
      have : m[j]? = some (k, v) := by
        have h2 : (m.drop j)[0]? = some (k, v) := by rw [e]; rfl
        rwa [List.getElem?_drop, Nat.add_zero] at h2
      rw [this]; rfl
theorem upOb_tl (hM : magic M = false) (tn : Tn (pmo M fk f h m) ob) (ho : oget ob M = some (.pmap (pmE fk h 0 m))) : upOb ob (pmo M fk f h m) :=
  ⟨⟨_, ho, .refl _⟩, upOb_pmB (fun q => by rw [tn.get q, pmo_pid hM]) m 0 (by simp)⟩
theorem wi_cons {o : Id} {x : Obj} {l : List (Id × Obj)} (h : x.within ob = true) (t : obWithin ob l = true) : obWithin ob ((o, x) :: l) = true := by
  simp only [obWithin, h, t]; rfl
theorem cl3 {A B C : Bool} (a : A = true) (b : B = true) (c : C = true) : (A && B && C) = true := by subst a; subst b; subst c; rfl
theorem wi_pmE (tn : ∀ q, q < m.length → alive ob (hid h q) = true) : ∀ (l : List (κ × α)) (j : Nat), j + l.length ≤ m.length → pWithin ob (pmE fk h j l) = true
  | [], _, _ => rfl
  | (k, v) :: r, j, e => by
    simp only [List.length_cons] at e
    simp only [pmE, pWithin, V.within, tn j (by omega), wi_pmE tn r (j + 1) (by omega)]; rfl
theorem wi_pmB (hf : ∀ v, withins ob (f v) = true) : ∀ (l : List (κ × α)) (j : Nat), obWithin ob (pmB f h j l) = true
  | [], _ => rfl
  | (k, v) :: r, j => by
    simp only [pmB]
    split
    · exact wi_pmB hf r (j + 1)
    · exact wi_cons (hf v) (wi_pmB hf r (j + 1))
theorem wi_tl (hM : magic M = false) (tn : Tn (pmo M fk f h m) ob) (hf : ∀ v, withins ob (f v) = true) (hb : ∀ j b, h = some (j, b) → alive ob b = true) : obWithin ob (pmo M fk f h m) = true := by
  refine wi_cons (wi_pmE (m := m) (fun q hq => ?_) m 0 (by simp)) (wi_pmB hf m 0)
  have hp : ∀ j, (h.map (·.1) ≠ some j) → j < m.length → alive ob (pid j) = true := fun j hj hl => by
    have : oget ob (pid j) = some (.box (f m[j].2)) := by rw [tn.get, pmo_pid hM, if_pos hj]; simp [hl]
    simp only [alive, this]
  cases h with
  | none => exact hp q (by simp) hq
  | some x =>
    obtain ⟨j, b⟩ := x
    simp only [hid]
    split
    · exact hb j b rfl
    · rename_i e; exact hp q (by simpa using e) hq
end
end
theorem nob {ob : List (Id × Obj)} : ∀ j b, (none : Option (Nat × Id)) = some (j, b) → alive ob b = true := fun _ _ e => by cases e
theorem sob {ob : List (Id × Obj)} {i : Nat} {b : Id} (h : alive ob b = true) : ∀ j b', (some (i, b) : Option (Nat × Id)) = some (j, b') → alive ob b' = true := fun _ _ e => by injection e with e; injection e with _ e; exact e ▸ h
end Go.AM

/- Lookups and entries of such maps. -/
namespace Go.AM
open Go Go.RowKit
variable {r : Bool} {P : Program} {E : Env} {gl : List (Nat × List V)} {κ α : Type} [DecidableEq κ]

theorem pget_now {w : World} {B : BM} {pr : Nat → Prop} {u : TypeDesc} {fk : κ → V} {kk : κ} {c : Value} {h : Option (Nat × Id)} (hf : KeyF fk) (hu : MapKept.IsKey u c) (hk : RC0 w pr (fk kk) c) : ∀ {m : List (κ × α)} {ms : List MapEntry} (i j : Nat), RCp w B pr (pmE fk h j m) ms →
    (mget m kk = none → Instr.findNow u c ms i = some none) ∧ ∀ v, mget m kk = some v → ∃ d, Instr.findNow u c ms i = some (some (i + mix kk m, d)) ∧ RC w B pr (.ptr (hid h (j + mix kk m)) 0 0) d
  | [], [], i, j, _ => ⟨fun _ => rfl, fun _ e => by cases e⟩
  | [], _ :: _, _, _, q => q.elim
  | (_, _) :: _, [], _, _, q => q.elim
  | (x, y) :: m, e :: ms, i, j, q => by
    have hn := kSame_now hu hk q.1 (hf kk x)
    have ih := pget_now (h := h) hf hu hk (m := m) (ms := ms) (i + 1) (j + 1) q.2.2
    simp only [mget, mix]
    by_cases ex : kk = x
    · rw [if_pos ex, if_pos ex]
      refine ⟨fun h => by (cases h), fun v hv => ⟨e.val, ?_, by simpa using q.2.1⟩⟩
      simp only [Instr.findNow, hn.1, ex, decide_true]; rfl
    · rw [if_neg ex, if_neg ex]
      have hn1 := hn.1
      rw [decide_eq_false ex] at hn1
      refine ⟨fun h => ?_, fun v hv => ?_⟩
      · simp only [Instr.findNow, hn1]; exact ih.1 h
      · obtain ⟨d, h1, h2⟩ := ih.2 v hv
        refine ⟨d, ?_, by rwa [show j + (mix kk m + 1) = j + 1 + mix kk m by omega]⟩
        simp only [Instr.findNow, hn1]
        rw [h1]
        congr 3; omega

theorem Sim.pmapAt {w0 : World} {pr0 ow : Nat → Prop} {n : Nat} {tm : List (Nat × V)} {ob : List (Id × Obj)} {out : List (Nat × List (Nat × V))} {pa : Id} {a : Act} {ao : List (Array Value)} {w : World} {B : BM} {pr : Nat → Prop}
    (h : Sim gl w0 pr0 ow ⟨n, tm, ob, out, pa⟩ a ao w B pr) {o : Id} {es : List (V × V)} (ho : oget ob o = some (.pmap es)) {c : Value} (hc : RC w B pr (.mapr o) c) :
    ∃ bd ms clock, B o = some bd ∧ ¬ pr bd.b ∧ bd.b < w.heap.size ∧ c = .map (some bd.b) ∧ w.heap[bd.b]? = some (.map ms clock) ∧ RCp w B pr es ms.toList ∧ Stamps ms clock := by
  cases hc with
  | base h => cases h
  | mapr hB =>
    rcases h.obs _ _ ho with ⟨g1, _⟩ | ⟨_, ⟨bd', hB', ⟨q1, q2, ms, clock, q3, q4, q5⟩, _⟩ | ⟨hB', _, _, e⟩⟩
    · cases g1
    · rw [hB] at hB'; injection hB' with hB'; subst hB'
      exact ⟨_, ms, clock, hB, q1, q2, rfl, q3, q4, q5⟩
    · cases e

/-- WHAT A LOOKUP TELLS: nothing, or the entry's variable. -/
theorem run_lookPm (hE : E.good P = true) {w0 : World} {pr0 ow : Nat → Prop} {n : Nat} {tm : List (Nat × V)} {ob : List (Id × Obj)} {out : List (Nat × List (Nat × V))} {pa : Id} {a : Act} {ao : List (Array Value)} {w : World} {B : BM} {pr : Nat → Prop}
    (q : Sim gl w0 pr0 ow ⟨n, tm, ob, out, pa⟩ a ao w B pr) {t k e sz bt : Nat} {z : List V} {dk de : Ty} {o : Id} {fk : κ → V} {m : List (κ × α)} {kk : κ} {ok : Bool} {x i : Operand} (hf : KeyF fk)
    (ht : ety E t = some ⟨.map k e, sz, bt, z⟩) (hk : ety E k = some dk) (he : ety E e = some de) (hz : de.zero = [.nilp]) (hag : de.k.isAgg = false) (hx : ev tm x = .mapr o) (ho : oget ob o = some (.pmap (pmE fk none 0 m))) (hi : ev tm i = fk kk) (hkk : kKind dk.k (fk kk) = true) :
    (mget m kk = none → ∃ c, (Instr.lookup t (a.eval x) (a.eval i) ok).run P w = .ok c w ∧ RC w B pr (lookV .nilp ok none) c) ∧
    ∀ v, mget m kk = some v → ∃ c, (Instr.lookup t (a.eval x) (a.eval i) ok).run P w = .ok c w ∧ RC w B pr (lookV .nilp ok (some (.ptr (pid (mix kk m)) 0 0))) c := by
  have hxc := ev_rc q.tms x
  rw [hx] at hxc
  obtain ⟨bd, ms, clock, _, _, _, e1, e2, e3, _⟩ := q.pmapAt ho hxc
  have hic := ev_rc q.tms i
  rw [hi] at hic
  obtain ⟨u, hu, hkey, hk0⟩ := kKind_key (Env.ok hE hk) hkk hic
  obtain ⟨zi, zu, g1, g2, g3, g4, g5, g6, g7, zv, g8, g9, g10⟩ := (Env.ok hE he).ex
  have hzrun : (zeroValue e).run P w = .ok zv w := by simp [zeroValue, typeInfo, g1, g8]
  have hzrc : RC0 w pr .nilp zv := by
    have hj := justs_rc (w := w) (pr := pr) g9
    rw [hz] at hj
    rw [hag] at g10
    have hcells : zv.cells.toList = [zv] := by
      cases zv <;> simp [aggFits] at g10 <;> rfl
    rw [hcells] at hj
    cases hj with
    | cons h _ => exact h
  have key := pget_now hf hkey hk0 0 0 e3
  refine ⟨fun h0 => ?_, fun v hv => ?_⟩
  · have h2 := key.1 h0
    refine ⟨if ok then .tuple #[zv, .bool false] else zv, ?_, ?_⟩
    · simp [Instr.lookup, e1, run_underlying (ty_map (Env.ok hE ht)), MapKept.run_getObj_map e2, MapKept.run_checkKey hu hkey, MapKept.run_findKey hu h2, hzrun, Result.andThen]
    · cases ok with
      | true => exact .tup (.cons (.base hzrc) (.cons (.base (.bool _)) .nil))
      | false => exact .base hzrc
  · obtain ⟨d, h2, h3⟩ := key.2 v hv
    rw [Nat.zero_add] at h3
    refine ⟨if ok then .tuple #[d, .bool true] else d, ?_, ?_⟩
    · simp [Instr.lookup, e1, run_underlying (ty_map (Env.ok hE ht)), MapKept.run_getObj_map e2, MapKept.run_checkKey hu hkey, MapKept.run_findKey hu h2, Result.andThen]
    · cases ok with
      | true => exact .tup (.cons h3 (.cons (.base (.bool _)) .nil))
      | false => exact h3

theorem Sim.put {w0 : World} {pr0 ow : Nat → Prop} {n d : Nat} {tm : List (Nat × V)} {ob : List (Id × Obj)} {out : List (Nat × List (Nat × V))} {pa : Id} {a : Act} {ao : List (Array Value)} {w : World} {B : BM} {pr : Nat → Prop}
    (q : Sim gl w0 pr0 ow ⟨n, tm, ob, out, pa⟩ a ao w B pr) {v : V} {c : Value} (hn : Nat.blt d n = true) (hc : RC w B pr v c) : Sim gl w0 pr0 ow ⟨n, (d, v) :: tm, ob, out, pa⟩ (a.put (some d) c) ao w B pr :=
  { q with tms := q.tms.put (show d < n by simpa using hn) hc }

theorem SafeOps.lookP0 {M : Id} (fk : κ → V) (m : List (κ × α)) (kk : κ) (hE : E.good P = true) {l rest : List Oper} {op : Oper} {Q : Exit → St → Prop} {n d t : Nat} {x i : Operand} {k e sz bt : Nat} {z : List V} {dk de : Ty} {ok : Bool} {tm : List (Nat × V)} {ob : List (Id × Obj)} {out : List (Nat × List (Nat × V))} {pa : Id}
    (hf : KeyF fk) (hm : mget m kk = none) (hg : gd l tm op = some true) (hop : op.op = .lookup t x i ok) (hd : op.dst = some d) (hn : Nat.blt d n = true)
    (ht : ety E t = some ⟨.map k e, sz, bt, z⟩) (hk : ety E k = some dk) (he : ety E e = some de) (hz : de.zero = [.nilp]) (hag : de.k.isAgg = false) (hx : ev tm x = .mapr M) (ho : oget ob M = some (.pmap (pmE fk none 0 m))) (hi : ev tm i = fk kk) (hkk : kKind dk.k (fk kk) = true)
    (h : SafeOps r P gl l rest Q ⟨n, (d, lookV .nilp ok none) :: tm, ob, out, pa⟩) : SafeOps r P gl l (op :: rest) Q ⟨n, tm, ob, out, pa⟩ :=
  SafeOps.done hg fun w0 pr0 ow a ao w B pr hs K hK => by
    obtain ⟨c, hrun, hc⟩ := (run_lookPm (ok := ok) hE hs hf ht hk he hz hag hx ho hi hkk).1 hm
    refine wp_value (o := op) (c := c) (w' := w) (by unfold execOp; rw [hop]; simp [hrun, Result.andThen]) ?_
    rw [hd]
    exact hK _ _ (h _ _ _ _ _ _ _ _ (hs.put hn hc))

theorem pmo_ren {M : Id} {fk : κ → V} {f : α → List V} {j : Nat} {b o : Id} (hM : swp (pid j) b M = M) (hff : ∀ a b v, rens a b (f v) = f v) (hb : magic b = false) {m : List (κ × α)} {h h' : Option (Nat × Id)} (hh : (h = none ∧ h' = some (j, b)) ∨ (h = some (j, b) ∧ h' = none)) {m' : List (κ × α)} (hkey : m.map (·.1) = m'.map (·.1)) (hval : ∀ q, q ≠ j → m[q]? = m'[q]?)
    (ho : o ≠ pid j) (hob : o ≠ b) (hMm : magic M = false) : oget (renO (pid j) b (pmo M fk f h m)) o = oget (pmo M fk f h' m') o := by
  rw [renO_get, swp_def, if_neg ho, if_neg hob]
  by_cases e : M = o
  · subst e
    rw [pmo, pmo, oget_cons, oget_cons, if_pos rfl, if_pos rfl, ← pmE_keys 0 hkey]
    have := renP_pmE (fk := fk) (j := j) hb m 0
    rcases hh with ⟨rfl, rfl⟩ | ⟨rfl, rfl⟩
    · simp [Obj.ren, this.1]
    · simp [Obj.ren, this.2]
  · by_cases hq : ∃ q, pid q = o
    · obtain ⟨q, rfl⟩ := hq
      have hqj : q ≠ j := fun e => ho (by rw [e])
      rw [pmo_pid hMm, pmo_pid hMm, hval q hqj]
      have h1 : h.map (·.1) ≠ some q := by rcases hh with ⟨rfl, rfl⟩ | ⟨rfl, rfl⟩ <;> simp [Ne.symm hqj]
      have h2 : h'.map (·.1) ≠ some q := by rcases hh with ⟨rfl, rfl⟩ | ⟨rfl, rfl⟩ <;> simp [Ne.symm hqj]
      rw [if_pos h1, if_pos h2]
      cases m'[q]? with
      | none => rfl
      | some p => simp [Obj.ren, hff]
    · have hq' : ∀ q, pid q ≠ o := fun q e => hq ⟨q, e⟩
      rw [pmo, pmo, oget_cons, oget_cons, if_neg e, if_neg e, pmB_not hq', pmB_not hq']; rfl

theorem SafeOps.lookP1 {M : Id} (fk : κ → V) (f : α → List V) (m : List (κ × α)) (kk : κ) (v : α) (b : Id) (hE : E.good P = true) {l rest : List Oper} {op : Oper} {Q : Exit → St → Prop} {n d t : Nat} {x i : Operand} {k e sz bt : Nat} {z : List V} {dk de : Ty} {ok : Bool} {tm : List (Nat × V)} {ob ob' : List (Id × Obj)} {out : List (Nat × List (Nat × V))} {pa : Id}
    (hf : KeyF fk) (hm : mget m kk = some v) (hg : gd l tm op = some true) (hop : op.op = .lookup t x i ok) (hd : op.dst = some d) (hn : Nat.blt d n = true)
    (ht : ety E t = some ⟨.map k e, sz, bt, z⟩) (hk : ety E k = some dk) (he : ety E e = some de) (hz : de.zero = [.nilp]) (hag : de.k.isAgg = false) (hx : ev tm x = .mapr M) (ho : oget ob M = some (.pmap (pmE fk none 0 m))) (hi : ev tm i = fk kk) (hkk : kKind dk.k (fk kk) = true)
    (hM : swp (pid (mix kk m)) b M = M) (hb : magic b = false) (hMm : magic M = false) (hMb : M ≠ b) (hff : ∀ a b v, rens a b (f v) = f v)
    (tg : Tg false (pid (mix kk m)) b (pmo M fk f none m) (pmo M fk f (some (mix kk m, b)) (Go.AM.mput m kk v)) ob ob')
    (htm : renT (pid (mix kk m)) b tm = tm) (hout : renOut (pid (mix kk m)) b out = out)
    (h : SafeOps r P gl l rest Q ⟨n, (d, lookV .nilp ok (some (.ptr b 0 0))) :: tm, (b, .box (f v)) :: ob', out, pa⟩) : SafeOps r P gl l (op :: rest) Q ⟨n, tm, ob, out, pa⟩ :=
  SafeOps.done hg fun w0 pr0 ow a ao w B pr hs K hK => by
    obtain ⟨c, hrun, hc⟩ := (run_lookPm (ok := ok) hE hs hf ht hk he hz hag hx ho hi hkk).2 v hm
    refine wp_value (o := op) (c := c) (w' := w) (by unfold execOp; rw [hop]; simp [hrun, Result.andThen]) ?_
    rw [hd]
    have hab : pid (mix kk m) ≠ b := pid_not hb _
    have h1 := (hs.put hn hc).ren (pid (mix kk m)) b
    have hat := tg.at hab
    have hg' := mix_get hm
    have he : Eqv ⟨n, renT (pid (mix kk m)) b ((d, lookV .nilp ok (some (.ptr (pid (mix kk m)) 0 0))) :: tm), renO (pid (mix kk m)) b ob, renOut (pid (mix kk m)) b out, pa⟩ ⟨n, (d, lookV .nilp ok (some (.ptr b 0 0))) :: tm, (b, .box (f v)) :: ob', out, pa⟩ := ⟨rfl, fun t => ?_, fun o => ?_, hout, rfl⟩
    · exact hK _ _ (h _ _ _ _ _ _ _ _ (h1.eqv he))
    · simp only [renT, htm]
      have : (lookV .nilp ok (some (.ptr (pid (mix kk m)) 0 0))).ren (pid (mix kk m)) b = lookV .nilp ok (some (.ptr b 0 0)) := by
        cases ok <;> simp [lookV, V.ren, rens, swp_def]
      rw [this]
    · rw [mput_same hm] at hat
      simp only [oget_cons]
      by_cases e1 : b = o
      · subst e1
        rw [if_pos rfl, renO_get, swp_def, if_neg (Ne.symm hab), if_pos rfl, hat.2.1, pmo_pid hMm, if_pos (by simp), hg'.1]
        simp [Obj.ren, hff]
      · rw [if_neg e1]
        by_cases e2 : o = pid (mix kk m)
        · subst e2
          rw [hat.1, pmo_pid hMm, if_neg (by simp), renO_get, swp_def, if_pos rfl, hat.2.2.2 rfl, pmo, oget_cons, if_neg hMb, pmB_not (pid_not hb)]
          rfl
        · refine tg.get hab e2 (pmo_ren hM hff hb (.inl ⟨rfl, rfl⟩) ?_ ?_ e2 (Ne.symm e1) hMm)
          · rw [mput_same hm]
          · intro q _; rw [mput_same hm]

/-- A NEW ENTRY: it points to a variable of the call's own. -/
theorem SafeOps.putP {M : Id} (fk : κ → V) (f : α → List V) (m : List (κ × α)) (kk : κ) (v : α) (b : Id) (hE : E.good P = true) {l rest : List Oper} {op : Oper} {Q : Exit → St → Prop} {n t : Nat} {x i y : Operand} {k e sz bt : Nat} {z : List V} {dk : Ty} {tm : List (Nat × V)} {ob ob' : List (Id × Obj)} {out : List (Nat × List (Nat × V))} {pa : Id}
    (hf : KeyF fk) (hm : mget m kk = none) (hg : gd l tm op = some true) (hop : op.op = .mapUpdate t x i y ∨ op.op = .insert t x i y) (hd : op.dst = none)
    (ht : ety E t = some ⟨.map k e, sz, bt, z⟩) (hk : ety E k = some dk) (hx : ev tm x = .mapr M) (ho : oget ob M = some (.pmap (pmE fk none 0 m))) (hi : ev tm i = fk kk) (hkk : kKind dk.k (fk kk) = true) (hy : ev tm y = .ptr b 0 0)
    (hMm : magic M = false) (tt : Tt (pmo M fk f none m) (pmo M fk f (some (mix kk m, b)) (Go.AM.mput m kk v)) ob ob') (ho' : oget ob' M = some (.pmap (pmE fk (some (mix kk m, b)) 0 (Go.AM.mput m kk v))))
    (h : SafeOps r P gl l rest Q ⟨n, tm, ob', out, pa⟩) : SafeOps r P gl l (op :: rest) Q ⟨n, tm, ob, out, pa⟩ :=
  SafeOps.done hg fun w0 pr0 ow a ao w B pr hsim K hK => by
    have hxc := ev_rc hsim.tms x
    rw [hx] at hxc
    obtain ⟨bd, ms, clock, hB, hnp, hlt, e1, e2, e3, est⟩ := hsim.pmapAt ho hxc
    have hic := ev_rc hsim.tms i
    rw [hi] at hic
    obtain ⟨u, hu, hkey, hk0⟩ := kKind_key (Env.ok hE hk) hkk hic
    have hv0 := ev_rc hsim.tms y
    rw [hy] at hv0
    have h1 := (pget_now hf hkey hk0 0 0 e3).1 hm
    have hno := mix_no hm
    have hrun : (Instr.mapUpdate t (a.eval x) (a.eval i) (a.eval y)).run P w = .ok () { w with heap := w.heap.setIfInBounds bd.b (.map (ms.push ⟨a.eval i, a.eval y, clock⟩) (clock + 1)) } := by
      simp [Instr.mapUpdate, e1, run_underlying (ty_map (Env.ok hE ht)), MapKept.run_getObj_map e2, MapKept.run_checkKey hu hkey, MapKept.run_findKey hu h1, MapKept.run_setObj_map _ e2, Result.andThen]
    have hrc : RCp w B pr (pmE fk (some (mix kk m, b)) 0 (Go.AM.mput m kk v)) (ms.push ⟨a.eval i, a.eval y, clock⟩).toList := by
      rw [Array.toList_push, hno.2 v, hno.1]
      have gen : ∀ (m : List (κ × α)) (j N : Nat) (ms : List MapEntry), j + m.length = N → RCp w B pr (pmE fk none j m) ms → RCp w B pr (pmE fk (some (N, b)) j (m ++ [(kk, v)])) (ms ++ [⟨a.eval i, a.eval y, clock⟩]) := by
        intro m
        induction m with
        | nil =>
          intro j N ms e q
          cases ms with
          | nil =>
            simp at e; subst e
            simp only [List.nil_append, pmE, hid, if_pos]
            exact ⟨hk0, hv0, trivial⟩
          | cons _ _ => exact q.elim
        | cons p m ih =>
          intro j N ms e q
          cases ms with
          | nil => exact q.elim
          | cons e0 ms =>
            simp only [List.length_cons] at e
            refine ⟨q.1, ?_, ih (j + 1) N ms (by omega) q.2.2⟩
            simp only [hid]
            rw [if_neg (by omega)]
            exact q.2.1
      exact gen m 0 _ _ (by simp) e3
    obtain ⟨hone, hget⟩ := One.put (o' := .map (ms.push ⟨a.eval i, a.eval y, clock⟩) (clock + 1)) e2
    have hlk : Like pr w ({ w with heap := w.heap.setIfInBounds bd.b (.map (ms.push ⟨a.eval i, a.eval y, clock⟩) (clock + 1)) } : World) := fun b hb => hone.block b (fun e => hnp (e ▸ hb))
    have hsim' := hsim.upd (x' := .pmap (pmE fk (some (mix kk m, b)) 0 (Go.AM.mput m kk v))) ho (by simp) (by simp) hB hnp hone ⟨hnp, by rw [hone.size]; exact hlt, _, _, hget, hrc.move hlk (fun _ h => h) (fun _ _ h => h), est.push _ _⟩
    have he : Eqv ⟨n, tm, (M, .pmap (pmE fk (some (mix kk m, b)) 0 (Go.AM.mput m kk v))) :: ob, out, pa⟩ ⟨n, tm, ob', out, pa⟩ := ⟨rfl, fun _ => rfl, fun o => by
      simp only [oget_cons]
      by_cases e : M = o
      · subst e; rw [if_pos rfl, ho']
      · rw [if_neg e]
        refine tt.get ?_
        rw [pmo, pmo, oget_cons, oget_cons, if_neg e, if_neg e]
        by_cases hq : ∃ q, pid q = o
        · obtain ⟨q, rfl⟩ := hq
          have g1 := pmo_pid (fk := fk) (f := f) (h := none) (m := m) hMm q
          have g2 := pmo_pid (fk := fk) (f := f) (h := some (mix kk m, b)) (m := Go.AM.mput m kk v) hMm q
          rw [pmo, oget_cons, if_neg e] at g1 g2
          rw [g1, g2, if_pos (by simp), hno.2 v, hno.1]
          by_cases eq : q = m.length
          · subst eq; simp
          · rw [if_pos (by simpa using Ne.symm eq)]
            by_cases hl : q < m.length
            · rw [List.getElem?_append_left hl]
            · rw [List.getElem?_eq_none (l := m) (by omega), List.getElem?_eq_none (by rw [List.length_append, List.length_singleton]; omega)]
        · have hq' : ∀ q, pid q ≠ o := fun q e => hq ⟨q, e⟩
          rw [pmB_not hq', pmB_not hq'], rfl, rfl⟩
    have hsim2 := hsim'.eqv he
    unfold Oper.wp execOp
    rcases hop with hop | hop <;>
    · rw [hop]
      simp only [hrun, Sem.run_bind, Result.andThen_ok, Sem.run_pure, Oper.upon]
      rw [hd]
      exact hK _ _ (h _ _ _ _ _ _ _ _ hsim2)

theorem Sim.giveP {M : Id} (fk : κ → V) (f : α → List V) (m : List (κ × α)) (kk : κ) (v v' : α) (b : Id) {w0 : World} {pr0 ow : Nat → Prop} {n : Nat} {tm : List (Nat × V)} {ob ob' : List (Id × Obj)} {out : List (Nat × List (Nat × V))} {pa : Id} {a : Act} {ao : List (Array Value)} {w : World} {B : BM} {pr : Nat → Prop}
    (hs : Sim gl w0 pr0 ow ⟨n, tm, ob, out, pa⟩ a ao w B pr) (hb' : oget ob b = some (.box (f v')))
    (hM : swp (pid (mix kk m)) b M = M) (hb : magic b = false) (hMm : magic M = false) (hMb : idEq M b = false) (hff : ∀ a b v, rens a b (f v) = f v)
    (tg : Tg true (pid (mix kk m)) b (pmo M fk f (some (mix kk m, b)) (Go.AM.mput m kk v)) (pmo M fk f none (Go.AM.mput m kk v')) ob ob')
    (htm : renT (pid (mix kk m)) b tm = tm) (hout : renOut (pid (mix kk m)) b out = out) : Sim gl w0 pr0 ow ⟨n, tm, ob', out, pa⟩ a ao w (renB (pid (mix kk m)) b B) pr := by
  have hab : pid (mix kk m) ≠ b := pid_not hb _
  have hMb : M ≠ b := fun e => by rw [idEq_iff.2 e] at hMb; cases hMb
  have hat := tg.at hab
  have p1 := mget_put (k := kk) v m
  have p2 := mget_put (k := kk) v' m
  have q1 := mix_get p1.1
  have q2 := mix_get p2.1
  have e12 : Go.AM.mput m kk v' = (Go.AM.mput m kk v).set (mix kk m) (kk, v') := by rw [← p1.2.2 v', q1.2 v', p1.2.1]
  have he : Eqv ⟨n, renT (pid (mix kk m)) b tm, renO (pid (mix kk m)) b ob, renOut (pid (mix kk m)) b out, pa⟩ ⟨n, tm, ob', out, pa⟩ := ⟨rfl, fun t => by rw [htm], fun o => ?_, hout, rfl⟩
  · exact (hs.ren (pid (mix kk m)) b).eqv he
  simp only
  by_cases e1 : b = o
  · subst e1
    rw [renO_get, swp_def, if_neg (Ne.symm hab), if_pos rfl, hat.2.1, hat.2.2.1, pmo_pid hMm, if_neg (by simp), pmo, oget_cons, if_neg hMb, pmB_not (pid_not hb)]
    rfl
  · by_cases e2 : o = pid (mix kk m)
    · subst e2
      rw [hat.1, pmo_pid hMm, if_pos (by simp), renO_get, swp_def, if_pos rfl, hb', ← p2.2.1, q2.1]
      simp [Obj.ren, hff]
    · refine tg.get hab e2 (pmo_ren hM hff hb (.inr ⟨rfl, rfl⟩) ?_ ?_ e2 (Ne.symm e1) hMm)
      · rw [e12, List.map_set]
        have : (Go.AM.mput m kk v)[mix kk m]? = some (kk, v) := by rw [← p1.2.1]; exact q1.1
        apply List.ext_getElem?
        intro q
        rw [List.getElem?_set]
        split
        · rename_i e; subst e
          rw [List.getElem?_map, this]
          split
          · rfl
          · rename_i hl; simp only [List.length_map] at hl; rw [List.getElem?_eq_none (by omega)] at this; cases this
        · rfl
      · intro q hq
        rw [e12, List.getElem?_set_ne (Ne.symm hq)]
theorem SafeOps.giveP {M : Id} (fk : κ → V) (f : α → List V) (m : List (κ × α)) (kk : κ) (v v' : α) (b : Id) {l rest : List Oper} {Q : Exit → St → Prop} {n : Nat} {tm : List (Nat × V)} {ob ob' : List (Id × Obj)} {out : List (Nat × List (Nat × V))} {pa : Id}
    (hb' : oget ob b = some (.box (f v')))
    (hM : swp (pid (mix kk m)) b M = M) (hb : magic b = false) (hMm : magic M = false) (hMb : idEq M b = false) (hff : ∀ a b v, rens a b (f v) = f v)
    (tg : Tg true (pid (mix kk m)) b (pmo M fk f (some (mix kk m, b)) (Go.AM.mput m kk v)) (pmo M fk f none (Go.AM.mput m kk v')) ob ob')
    (htm : renT (pid (mix kk m)) b tm = tm) (hout : renOut (pid (mix kk m)) b out = out)
    (h : SafeOps r P gl l rest Q ⟨n, tm, ob', out, pa⟩) : SafeOps r P gl l rest Q ⟨n, tm, ob, out, pa⟩ := fun w0 pr0 ow a ao w B pr hs => h _ _ _ _ _ _ _ _ (hs.giveP fk f m kk v v' b hb' hM hb hMm hMb hff tg htm hout)
theorem Safe.giveP {M : Id} (fk : κ → V) (f : α → List V) (m : List (κ × α)) (kk : κ) (v v' : α) (b : Id) {c : Code} {Q : Exit → St → Prop} {n : Nat} {tm : List (Nat × V)} {ob ob' : List (Id × Obj)} {out : List (Nat × List (Nat × V))} {pa : Id}
    (hb' : oget ob b = some (.box (f v')))
    (hM : swp (pid (mix kk m)) b M = M) (hb : magic b = false) (hMm : magic M = false) (hMb : idEq M b = false) (hff : ∀ a b v, rens a b (f v) = f v)
    (tg : Tg true (pid (mix kk m)) b (pmo M fk f (some (mix kk m, b)) (Go.AM.mput m kk v)) (pmo M fk f none (Go.AM.mput m kk v')) ob ob')
    (htm : renT (pid (mix kk m)) b tm = tm) (hout : renOut (pid (mix kk m)) b out = out)
    (h : Safe r P gl c Q ⟨n, tm, ob', out, pa⟩) : Safe r P gl c Q ⟨n, tm, ob, out, pa⟩ := fun w0 pr0 ow a ao w B pr hs => h _ _ _ _ _ _ _ _ (hs.giveP fk f m kk v v' b hb' hM hb hMm hMb hff tg htm hout)
/-- An empty map may get such entries. -/
theorem Safe.toPm (M : Id) {c : Code} {Q : Exit → St → Prop} {n : Nat} {tm : List (Nat × V)} {ob : List (Id × Obj)} {out : List (Nat × List (Nat × V))} {pa : Id} (ho : oget ob M = some (.map []))
    (h : Safe r P gl c Q ⟨n, tm, (M, .pmap []) :: ob, out, pa⟩) : Safe r P gl c Q ⟨n, tm, ob, out, pa⟩ := fun w0 pr0 ow a ao w B pr hs => by
  refine h _ _ _ _ _ _ B pr ?_
  rcases hs.obs M _ ho with ⟨g1, _⟩ | ⟨_, ⟨bd, hB, ⟨q1, q2, ms, clock, q3, q4, q5⟩, _⟩ | ⟨_, _, _, e⟩⟩
  · cases g1
  · refine hs.upd ho (by simp) (by simp) hB q1 ⟨rfl, rfl, rfl, Nat.le_refl _, rfl, fun _ _ => rfl⟩ ⟨q1, q2, ms, clock, q3, ?_, q5⟩
    cases hms : ms.toList with
    | nil => trivial
    | cons _ _ => rw [hms] at q4; exact q4.elim
  · cases e
def mcase {β K : Type} (o : Option β) (a : K) (f : β → K) : K := match o with | none => a | some v => f v
theorem mcaseG {β K : Type} {o : Option β} {a : K} {f : β → K} {ρ : K} {G : Prop} (h : mcase o a f = ρ) (h0 : o = none → a = ρ → G) (h1 : ∀ v, o = some v → f v = ρ → G) : G := by
  cases o with
  | none => exact h0 rfl h
  | some v => exact h1 v rfl h
/-- Names that change places ahead of such a map. -/
def renOt (a b : Id) : List (Id × Obj) → List (Id × Obj)
  | [] => []
  | (o, x) :: r => match x with
    | .pmap es => (o, .pmap es) :: r
    | x => (swp a b o, x.ren a b) :: renOt a b r
def Obj.isPm : Obj → Bool
  | .pmap _ => true
  | _ => false
inductive Tp (t : List (Id × Obj)) : List (Id × Obj) → Prop
  | here : Tp t t
  | cons {o : Id} {x : Obj} {ob : List (Id × Obj)} (h : x.isPm = false) (r : Tp t ob) : Tp t ((o, x) :: ob)
theorem renP_fix {κ α : Type} {a b : Id} {fk : κ → V} {h : Option (Nat × Id)} (hh : ∀ j, swp a b (hid h j) = hid h j) : ∀ (m : List (κ × α)) (j : Nat), renP a b (pmE fk h j m) = pmE fk h j m
  | [], _ => rfl
  | (k, v) :: r, j => by simp only [pmE, renP, V.ren, hh, renP_fix hh r (j + 1)]
theorem swp_other {a b o : Id} (ha : o ≠ a) (hb : o ≠ b) : swp a b o = o := by rw [swp_def, if_neg ha, if_neg hb]
theorem Gets.renp {κ α : Type} {M : Id} (fk : κ → V) (f : α → List V) (h : Option (Nat × Id)) (m : List (κ × α)) (a b : Id) {n : Nat} {tm : List (Nat × V)} {ob : List (Id × Obj)} {out : List (Nat × List (Nat × V))} {pa : Id} {τ : St}
    (ha : magic a = false) (hb : magic b = false) (hMm : magic M = false) (hMa : idEq M a = false) (hMb : idEq M b = false) (hff : ∀ a b v, rens a b (f v) = f v) (hI : ∀ j I, h = some (j, I) → swp a b I = I)
    (tp : Tp (pmo M fk f h m) ob) (hg : Gets gl ⟨n, renT a b tm, renOt a b ob, renOut a b out, pa⟩ τ) : Gets gl ⟨n, tm, ob, out, pa⟩ τ := by
  have hMa : M ≠ a := fun e => by rw [idEq_iff.2 e] at hMa; cases hMa
  have hMb : M ≠ b := fun e => by rw [idEq_iff.2 e] at hMb; cases hMb
  have hpid : ∀ q, swp a b (pid q) = pid q := fun q => swp_other (pid_not ha q) (pid_not hb q)
  have hid' : ∀ j, swp a b (hid h j) = hid h j := fun j => by
    cases h with
    | none => exact hpid j
    | some x =>
      obtain ⟨i, I⟩ := x
      simp only [hid]
      split
      · exact hI i I rfl
      · exact hpid j
  have htail : ∀ o, oget (renO a b (pmo M fk f h m)) o = oget (pmo M fk f h m) o := fun o => by
    rw [renO_get]
    have hno : ∀ o', magic o' = false → M ≠ o' → oget (pmo M fk f h m) o' = none := fun o' h1 h2 => by
      rw [pmo, oget_cons, if_neg h2]; exact pmB_not (pid_not h1) m 0
    by_cases ea : o = a
    · subst ea; rw [hno o ha hMa, swp_def, if_pos rfl, hno b hb hMb]; rfl
    · by_cases eb : o = b
      · subst eb; rw [hno o hb hMb, swp_def, if_neg ea, if_pos rfl, hno a ha hMa]; rfl
      · rw [swp_other ea eb]
        by_cases e : M = o
        · subst e; rw [pmo, oget_cons, if_pos rfl]; simp [Obj.ren, renP_fix hid']
        · by_cases hq : ∃ q, pid q = o
          · obtain ⟨q, rfl⟩ := hq
            rw [pmo_pid hMm]
            split
            · cases m[q]? with
              | none => rfl
              | some p => simp [Obj.ren, hff]
            · rfl
          · rw [pmo, oget_cons, if_neg e, pmB_not (fun q e => hq ⟨q, e⟩)]; rfl
  have key : ∀ o, oget (renO a b ob) o = oget (renOt a b ob) o := by
    clear hg
    intro o
    induction tp with
    | here => exact htail o
    | cons h1 _ ih =>
      rename_i x _ _
      cases x <;> first | (cases h1; done) | (simp only [renO, renOt, oget_cons]; rw [ih])
  exact .ren a b (.eqv (σ' := ⟨n, renT a b tm, renOt a b ob, renOut a b out, pa⟩) ⟨rfl, fun _ => rfl, key, rfl, rfl⟩ hg)
theorem fr1 {κ α : Type} {M : Id} {fk : κ → V} {f : α → List V} {h : Option (Nat × Id)} {m : List (κ × α)} {ob : List (Id × Obj)} {k : Id} {x : Obj} (t : Tf k (pmo M fk f h m) ob) (hk : magic k = false := by rfl) (hM : idEq M k = false := by rfl) : fresh ob [(k, x)] = true :=
  fresh_cons (fr_tl hk hM t) rfl
theorem fo1 {κ α : Type} {M : Id} {fk : κ → V} {f : α → List V} {h : Option (Nat × Id)} {m : List (κ × α)} {ob : List (Id × Obj)} {k : Id} (t : Tf k (pmo M fk f h m) ob) (hk : magic k = false := by rfl) (hM : idEq M k = false := by rfl) : oget ob k = none := fr_tl hk hM t
end Go.AM

/- Several operations of a drawn region that make new objects, in whatever order. -/
namespace Go.AM
open Go Go.RowKit
variable {r : Bool} {P : Program} {E : Env} {gl : List (Nat × List V)}

structure Mk where
  i : Nat
  o : Oper
  d : Nat
  v : V
  nw : List (Id × Obj)
  dp : List Nat
def Mk.add (m : Mk) (σ : St) : St := ⟨σ.n, (m.d, m.v) :: σ.tm, m.nw ++ σ.ob, σ.out, σ.pa⟩
def mksAdd : List Mk → St → St
  | [], σ => σ
  | m :: r, σ => mksAdd r (m.add σ)
def mksList : List Mk → Array Bool → Array Bool
  | [], a => a
  | m :: r, a => mksList r (a.setIfInBounds m.i true)
structure MkOk (P : Program) (E : Env) (gl : List (Nat × List V)) (l : List Oper) (σ : St) (m : Mk) : Prop where
  at_ : l[m.i]? = some m.o
  gd : gd l σ.tm m.o = some true
  dst : m.o.dst = some m.d
  lt : Nat.blt m.d σ.n = true
  q : QEv P E gl σ.tm σ.ob (σ.pa ++ [m.d]) m.o.op m.v m.nw
  fr : fresh σ.ob m.nw = true
def MksOk (P : Program) (E : Env) (gl : List (Nat × List V)) (l : List Oper) (σ : St) : List Mk → Prop
  | [] => True
  | m :: r => MkOk P E gl l σ m ∧ MksOk P E gl l σ r
theorem MksOk.mem {l : List Oper} {σ : St} (ms : List Mk) (h : MksOk P E gl l σ ms) : ∀ m ∈ ms, MkOk P E gl l σ m := by
  induction ms with
  | nil => intro m hm; cases hm
  | cons a r ih =>
    intro x hx
    rcases List.mem_cons.1 hx with e | hx
    · subst e; exact h.1
    · exact ih h.2 x hx
/-- Two of them have nothing to do with one another. -/
def Mk.apB (a b : Mk) : Bool := !Nat.beq a.d b.d && !Nat.beq a.i b.i && fresh a.nw b.nw
def apAll : List Mk → Bool
  | [] => true
  | m :: r => r.all m.apB && apAll r
structure Ap (a b : Mk) : Prop where
  d : a.d ≠ b.d
  i : a.i ≠ b.i
  f : ∀ o, oget a.nw o ≠ none → oget b.nw o = none
theorem Ap.symm {a b : Mk} (h : Ap a b) : Ap b a := ⟨Ne.symm h.d, Ne.symm h.i, fun o ho => by
  cases ha : oget a.nw o with
  | none => rfl
  | some x => exact absurd (h.f o (by rw [ha]; simp)) ho⟩
theorem ap_of {a b : Mk} (h : a.apB b = true) : Ap a b := by
  unfold Mk.apB at h
  simp only [Bool.and_eq_true, Bool.not_eq_true'] at h
  obtain ⟨⟨h3, h4⟩, h5⟩ := h
  refine ⟨Nat.ne_of_beq_eq_false h3, Nat.ne_of_beq_eq_false h4, fun o ho => ?_⟩
  cases hb : oget b.nw o with
  | none => rfl
  | some x => exact absurd (fresh_get h5 o x hb) ho
theorem aps_of : ∀ {ms : List Mk}, apAll ms = true → ms.Pairwise Ap
  | [], _ => .nil
  | m :: r, h => by
    simp only [apAll, Bool.and_eq_true, List.all_eq_true] at h
    exact .cons (fun x hx => ap_of (h.1 x hx)) (aps_of h.2)
theorem fresh_iff {ob : List (Id × Obj)} : ∀ {nw : List (Id × Obj)}, (∀ k x, (k, x) ∈ nw → oget ob k = none) → fresh ob nw = true
  | [], _ => rfl
  | (k, x) :: r, h => by
    simp only [fresh, h k x (List.mem_cons_self ..)]
    exact fresh_iff fun k' x' h' => h k' x' (List.mem_cons_of_mem _ h')
theorem oget_mem {k : Id} {x : Obj} : ∀ {nw : List (Id × Obj)}, (k, x) ∈ nw → oget nw k ≠ none
  | (k', x') :: r, h => by
    rw [oget_cons]
    split
    · simp
    · rename_i hne
      rcases List.mem_cons.1 h with e | e
      · injection e with e1 e2; exact absurd e1.symm hne
      · exact oget_mem e
theorem fresh_mem {ob : List (Id × Obj)} : ∀ {nw : List (Id × Obj)}, fresh ob nw = true → ∀ k x, (k, x) ∈ nw → oget ob k = none
  | (k', x') :: r, hf, k, x, h => by
    simp only [fresh] at hf
    cases ho : oget ob k' with
    | some y => rw [ho] at hf; cases hf
    | none =>
      rw [ho] at hf
      rcases List.mem_cons.1 h with e | e
      · injection e with e1 e2; rw [e1]; exact ho
      · exact fresh_mem hf k x e
/-- It looks at what the other one tells. -/
def Mk.dep (m a : Mk) : Bool := m.dp.any (Nat.beq a.i)
def lkOk (l : List Oper) (ms : List Mk) : Bool := ms.all fun m => ms.all fun a => !(m.o.looksAt l.toArray).contains a.d || m.dep a
theorem lk_of {l : List Oper} {ms : List Mk} (h : lkOk l ms = true) {m a : Mk} (hm : m ∈ ms) (ha : a ∈ ms) (hd : m.dep a = false) : a.d ∉ m.o.looksAt l.toArray := fun hx => by
  unfold lkOk at h
  rw [List.all_eq_true] at h
  have := h m hm
  rw [List.all_eq_true] at this
  have := this a ha
  rw [hd, List.contains_iff_mem.2 hx] at this
  cases this
theorem MkOk.keep {l : List Oper} {σ : St} {a b : Mk} (ha : fresh σ.ob a.nw = true) (hb : MkOk P E gl l σ b) (h : Ap a b) (hl : a.d ∉ b.o.looksAt l.toArray) : MkOk P E gl l (a.add σ) b := by
  exact ⟨hb.at_, (gd_ne hl).trans hb.gd, hb.dst, hb.lt, hb.q.mv (ev_ne hl) (obLe_app ha), fresh_iff fun k x hk => by
    show oget (a.nw ++ σ.ob) k = none
    rw [oget_append]
    cases hak : oget a.nw k with
    | some y => exact absurd (h.f k (by rw [hak]; simp)) (oget_mem hk)
    | none => exact fresh_mem hb.fr k x hk⟩
theorem Eqv.refl' (σ : St) : Eqv σ σ := ⟨rfl, fun _ => rfl, fun _ => rfl, rfl, rfl⟩
theorem Eqv.add {σ τ : St} (h : Eqv σ τ) (m : Mk) : Eqv (m.add σ) (m.add τ) :=
  ⟨h.n, fun t => tget_cons h.tm t, fun o => by show oget (m.nw ++ σ.ob) o = oget (m.nw ++ τ.ob) o; rw [oget_append, oget_append, h.ob o], h.out, h.pa⟩
theorem Eqv.adds : ∀ (ms : List Mk) {σ τ : St}, Eqv σ τ → Eqv (mksAdd ms σ) (mksAdd ms τ)
  | [], _, _, h => h
  | m :: r, _, _, h => Eqv.adds r (h.add m)
theorem Eqv.swap2 {a b : Mk} (h : Ap a b) (σ : St) : Eqv (a.add (b.add σ)) (b.add (a.add σ)) :=
  ⟨rfl, fun t => tget_swap h.d t, fun o => by
    show oget (a.nw ++ (b.nw ++ σ.ob)) o = oget (b.nw ++ (a.nw ++ σ.ob)) o
    simp only [oget_append]
    cases ha : oget a.nw o with
    | none => cases oget b.nw o <;> rfl
    | some x =>
      rw [h.f o (by rw [ha]; simp)], rfl, rfl⟩
theorem mksAdd_app : ∀ (a b : List Mk) (σ : St), mksAdd (a ++ b) σ = mksAdd b (mksAdd a σ)
  | [], _, _ => rfl
  | m :: a, b, σ => mksAdd_app a b (m.add σ)
theorem mksList_app : ∀ (a b : List Mk) (arr : Array Bool), mksList (a ++ b) arr = mksList b (mksList a arr)
  | [], _, _ => rfl
  | m :: a, b, arr => mksList_app a b (arr.setIfInBounds m.i true)
theorem perm_eqv {a b : List Mk} (h : a.Perm b) : a.Pairwise Ap → ∀ σ, Eqv (mksAdd a σ) (mksAdd b σ) := by
  induction h with
  | nil => intro _ σ; exact .refl' σ
  | cons x _ ih => intro hp σ; exact ih (List.pairwise_cons.1 hp).2 (x.add σ)
  | swap x y l =>
    intro hp σ
    have := (List.pairwise_cons.1 hp).1 x (List.mem_cons_self ..)
    exact Eqv.adds l (Eqv.swap2 this.symm σ)
  | trans h1 h2 ih1 ih2 => intro hp σ; exact (ih1 hp σ).trans (ih2 ((h1.pairwise_iff (fun h => h.symm)).1 hp) σ)
theorem perm_list {a b : List Mk} (h : a.Perm b) : a.Pairwise Ap → ∀ arr, mksList a arr = mksList b arr := by
  induction h with
  | nil => intro _ _; rfl
  | cons x _ ih => intro hp arr; exact ih (List.pairwise_cons.1 hp).2 _
  | swap x y l =>
    intro hp arr
    have := (List.pairwise_cons.1 hp).1 x (List.mem_cons_self ..)
    show mksList l ((arr.setIfInBounds y.i true).setIfInBounds x.i true) = mksList l ((arr.setIfInBounds x.i true).setIfInBounds y.i true)
    rw [Array.setIfInBounds_comm _ _ this.i]
  | trans h1 h2 ih1 ih2 => intro hp arr; exact (ih1 hp arr).trans (ih2 ((h1.pairwise_iff (fun h => h.symm)).1 hp) arr)
/-- Each is what it is behind those at which it looks. -/
def ChainOk (P : Program) (E : Env) (gl : List (Nat × List V)) (l : List Oper) (σ : St) (all : List Mk) : List Mk → Prop
  | [] => True
  | m :: r => MkOk P E gl l (mksAdd (all.filter m.dep) σ) m ∧ ChainOk P E gl l σ all r
theorem ChainOk.mem {l : List Oper} {σ : St} {all : List Mk} (ms : List Mk) (h : ChainOk P E gl l σ all ms) : ∀ m ∈ ms, MkOk P E gl l (mksAdd (all.filter m.dep) σ) m := by
  induction ms with
  | nil => intro m hm; cases hm
  | cons a r ih =>
    intro x hx
    rcases List.mem_cons.1 hx with e | hx
    · subst e; exact h.1
    · exact ih h.2 x hx
/-- In whatever order: who is next is one of those that are left, and looks at none of these. -/
def mkChk (l : List Oper) : Nat → List Mk → Array Bool → Bool
  | 0, _, _ => true
  | n + 1, ms, listed => !(Region.ready .any l.toArray listed).isEmpty && (Region.ready .any l.toArray listed).all (fun i => ms.any fun m => Nat.beq m.i i && !ms.any m.dep) && ms.all (fun m => ms.any m.dep || mkChk l n (ms.filter fun x => !Nat.beq x.i m.i) (listed.setIfInBounds m.i true))
theorem keeps {l : List Oper} {m : Mk} : ∀ (rest : List Mk) (σ : St), MkOk P E gl l σ m → (∀ a ∈ rest, Ap a m ∧ a.d ∉ m.o.looksAt l.toArray) → (∀ a ∈ rest, fresh σ.ob a.nw = true) → rest.Pairwise Ap → MkOk P E gl l (mksAdd rest σ) m
  | [], _, h, _, _, _ => h
  | a :: r, σ, h, h1, h2, h3 => by
    have ha := h2 a (List.mem_cons_self ..)
    have hp := List.pairwise_cons.1 h3
    refine keeps r (a.add σ) (h.keep ha (h1 a (List.mem_cons_self ..)).1 (h1 a (List.mem_cons_self ..)).2) (fun x hx => h1 x (List.mem_cons_of_mem _ hx)) (fun x hx => fresh_iff fun k y hk => ?_) hp.2
    show oget (a.nw ++ σ.ob) k = none
    rw [oget_append]
    cases hak : oget a.nw k with
    | some z => exact absurd ((hp.1 x hx).f k (by rw [hak]; simp)) (oget_mem hk)
    | none => exact fresh_mem (h2 x (List.mem_cons_of_mem _ hx)) k y hk
theorem MkOk.eqv {l : List Oper} {σ τ : St} {m : Mk} (h : MkOk P E gl l σ m) (he : Eqv σ τ) : MkOk P E gl l τ m :=
  ⟨h.at_, (by rw [← h.gd]; exact gd_mv fun _ _ d _ _ => (he.tm d).symm), h.dst, he.n ▸ h.lt, by rw [← he.pa]; exact h.q.mv (fun x _ => ev_eqv (fun t => (he.tm t).symm) x) (fun o x ho => (he.ob o).symm.trans ho), by rw [← fresh_eqv he.ob]; exact h.fr⟩
theorem adds_none : ∀ (D : List Mk) {σ : St} {k : Id}, oget (mksAdd D σ).ob k = none → oget σ.ob k = none
  | [], _, _, h => h
  | a :: D, σ, k, h => by
    have := adds_none D h
    have h2 : oget (a.nw ++ σ.ob) k = none := this
    rw [oget_append] at h2
    cases hak : oget a.nw k with
    | some z => rw [hak] at h2; cases h2
    | none => rw [hak] at h2; exact h2
theorem fresh_adds {a : Mk} : ∀ (D : List Mk) {σ : St}, (∀ b ∈ D, Ap b a) → fresh σ.ob a.nw = true → fresh (mksAdd D σ).ob a.nw = true
  | [], _, _, h => h
  | b :: D, σ, hD, h => fresh_adds D (σ := b.add σ) (fun x hx => hD x (List.mem_cons_of_mem _ hx)) (fresh_iff fun k y hk => by
    show oget (b.nw ++ σ.ob) k = none
    rw [oget_append]
    cases hak : oget b.nw k with
    | some z => exact absurd ((hD b (List.mem_cons_self ..)).f k (by rw [hak]; simp)) (oget_mem hk)
    | none => exact fresh_mem h k y hk)
theorem DAny.makersN {l : List Oper} {Z : List (Nat × Id)} {S : List Nat} {Q : St → Prop} {f : Nat} {all : List Mk} {σ : St} {listed : Array Bool} (hok : ∀ m ∈ all, MkOk P E gl l (mksAdd (all.filter m.dep) σ) m) (hp : all.Pairwise Ap) (hlk : lkOk l all = true)
    (H : DAny r P E gl l Z S Q f (mksList all listed) (mksAdd all σ)) : ∀ (n : Nat) (E0 R : List Mk) (τ : St), (E0 ++ R).Perm all → R.length = n → Eqv (mksAdd E0 σ) τ → mkChk l n R (mksList E0 listed) = true → DAny r P E gl l Z S Q (f + n) (mksList E0 listed) τ
  | 0, E0, R, τ, hpm, hn, he, _ => by
    have : R = [] := List.length_eq_zero_iff.1 hn
    subst this
    rw [List.append_nil] at hpm
    have hpE := (hpm.symm.pairwise_iff (fun h => h.symm)).1 hp
    rw [perm_list hpm hpE]
    exact DAny.eqv ((perm_eqv hpm hpE σ).symm.trans he) H
  | n + 1, E0, R, τ, hpm, hn, he, hc => by
    simp only [mkChk, Bool.and_eq_true, List.all_eq_true] at hc
    obtain ⟨⟨hc1, hc2⟩, hc3⟩ := hc
    refine ⟨fun h0 => (by rw [h0] at hc1; simp at hc1), fun k hk => ?_⟩
    have hk2 := hc2 k hk
    rw [List.any_eq_true] at hk2
    obtain ⟨m, hm, hmk⟩ := hk2
    simp only [Bool.and_eq_true, Bool.not_eq_true'] at hmk
    obtain ⟨hmi, hmd⟩ := hmk
    have hmi := Nat.eq_of_beq_eq_true hmi
    subst hmi
    have hpER := (hpm.symm.pairwise_iff (fun h => h.symm)).1 hp
    have hpa := List.pairwise_append.1 hpER
    have hmall : m ∈ all := hpm.subset (List.mem_append.2 (.inr hm))
    -- what it looks at is done
    have hD : (all.filter m.dep).Perm (E0.filter m.dep) := by
      have h1 := (hpm.filter m.dep).symm
      rw [List.filter_append] at h1
      have h2 : R.filter m.dep = [] := by
        rw [List.filter_eq_nil_iff]
        intro x hx hd
        rw [List.any_eq_false] at hmd
        exact hmd x hx hd
      rwa [h2, List.append_nil] at h1
    have hm1 := (hok m hmall).eqv (perm_eqv hD (hp.sublist List.filter_sublist) σ)
    have hfr : ∀ a ∈ all, fresh σ.ob a.nw = true := fun a ha => fresh_iff fun k y hk => adds_none _ (fresh_mem (hok a ha).fr k y hk)
    have hrest : ∀ a ∈ E0.filter (fun x => !m.dep x), a ∈ E0 ∧ m.dep a = false := fun a ha => by
      rw [List.mem_filter] at ha; exact ⟨ha.1, by simpa using ha.2⟩
    have hm2 : MkOk P E gl l (mksAdd (E0.filter (fun x => !m.dep x)) (mksAdd (E0.filter m.dep) σ)) m :=
      keeps _ _ hm1 (fun a ha => ⟨hpa.2.2 a (hrest a ha).1 m hm, lk_of hlk hmall (hpm.subset (List.mem_append.2 (.inl (hrest a ha).1))) (hrest a ha).2⟩) (fun a ha => fresh_adds _ (fun b hb => by
        have hb' := List.mem_filter.1 hb
        have ha' := hrest a ha
        have hne : b ≠ a := fun e => by rw [e] at hb'; rw [ha'.2] at hb'; cases hb'.2
        have : ∀ (L : List Mk), L.Pairwise Ap → b ∈ L → a ∈ L → Ap b a := fun L hL hbL haL => by
          induction L with
          | nil => cases hbL
          | cons x L ih =>
            have hc := List.pairwise_cons.1 hL
            rcases List.mem_cons.1 hbL with e1 | e1
            · rcases List.mem_cons.1 haL with e2 | e2
              · exact absurd (e1.trans e2.symm) hne
              · subst e1; exact hc.1 a e2
            · rcases List.mem_cons.1 haL with e2 | e2
              · subst e2; exact (hc.1 b e1).symm
              · exact ih hc.2 e1 e2
        exact this E0 hpa.1 hb'.1 ha'.1) (hfr a (hpm.subset (List.mem_append.2 (.inl (hrest a ha).1))))) (hpa.1.sublist List.filter_sublist)
    rw [← mksAdd_app] at hm2
    have hperm2 : (E0.filter m.dep ++ E0.filter (fun x => !m.dep x)).Perm E0 := List.filter_append_perm _ _
    have hm3 := (hm2.eqv (perm_eqv hperm2 ((hperm2.symm.pairwise_iff (fun h => h.symm)).1 hpa.1) σ)).eqv he
    -- the rest
    obtain ⟨A, B, rfl⟩ := List.append_of_mem hm
    have hp2 := List.pairwise_append.1 hpa.2.1
    have hp3 := List.pairwise_cons.1 hp2.2.1
    have hfilt : (A ++ m :: B).filter (fun x => !Nat.beq x.i m.i) = A ++ B := by
      rw [List.filter_append, List.filter_cons_of_neg (by simp [Nat.beq_refl])]
      congr 1
      · rw [List.filter_eq_self]; intro a ha
        have := (hp2.2.2 a ha m (List.mem_cons_self ..)).i
        cases hb : Nat.beq a.i m.i with
        | true => exact absurd (Nat.eq_of_beq_eq_true hb) this
        | false => rfl
      · rw [List.filter_eq_self]; intro b hb
        have := (hp3.1 b hb).i
        cases hb : Nat.beq b.i m.i with
        | true => exact absurd (Nat.eq_of_beq_eq_true hb).symm this
        | false => rfl
    have hc4 := hc3 m hm
    rw [hmd, Bool.false_or, hfilt] at hc4
    have hl2 : (mksList E0 listed).setIfInBounds m.i true = mksList (E0 ++ [m]) listed := by rw [mksList_app]; rfl
    obtain ⟨tn, ttm, tob, tout, tpa⟩ := τ
    refine ⟨m.o, hm3.at_, .quiet hm3.gd hm3.dst hm3.lt hm3.q hm3.fr ?_⟩
    rw [hl2] at hc4 ⊢
    refine DAny.makersN hok hp hlk H n (E0 ++ [m]) (A ++ B) (m.add ⟨tn, ttm, tob, tout, tpa⟩) ?_ (by simp at hn ⊢; omega) (by rw [mksAdd_app]; exact he.add m) hc4
    refine List.Perm.trans ?_ hpm
    rw [List.append_assoc]
    exact List.Perm.append_left E0 (by simpa using (List.perm_middle (a := m) (l₁ := A) (l₂ := B)).symm)
/-- SEVERAL THAT MAKE NEW OBJECTS, and what looks at these, in whatever order. -/
theorem DAny.makers {l : List Oper} {Z : List (Nat × Id)} {S : List Nat} {Q : St → Prop} {f : Nat} (ms : List Mk) {listed : Array Bool} {σ : St} (hok : ChainOk P E gl l σ ms ms) (hp : (apAll ms && lkOk l ms) = true) (hc : mkChk l ms.length ms listed = true)
    (H : DAny r P E gl l Z S Q f (mksList ms listed) (mksAdd ms σ)) : DAny r P E gl l Z S Q (f + ms.length) listed σ :=
  DAny.makersN (hok.mem ms) (aps_of (Bool.and_eq_true _ _ ▸ hp : apAll ms = true ∧ lkOk l ms = true).1) (Bool.and_eq_true _ _ ▸ hp : apAll ms = true ∧ lkOk l ms = true).2 H ms.length [] ms σ (by simp) rfl (.refl' σ) hc
theorem QEv.allocM {tm : List (Nat × V)} {ob : List (Id × Obj)} {id : Id} {t : Nat} {d : Ty} {cells : List V} (ht : ety E t = some d) (hz : d.zero = cells) (hf : V.ones cells = true) : QEv P E gl tm ob id (.alloc t) (.ptr id 0 0) [(id, .box cells)] := by
  subst hz; exact .alloc ht hf
theorem QEv.makeMs {α : Type} {f : α → List V} {d : α} {tm : List (Nat × V)} {ob : List (Id × Obj)} {id : Id} {t : Nat} {l c : Operand} {e sz bt s : Nat} {z : List V} {de : Ty} {k1 k2 : IntKind} {n m : Int}
    (ht : ety E t = some ⟨.sli e, sz, bt, z⟩) (he : ety E e = some de) (hl : ev tm l = .int k1 n) (hc : ev tm c = .int k2 m) (hg : 0 ≤ n ∧ n ≤ m ∧ m ≤ 549755813888) (hb : Nat.ble de.bytes 256 = true) (hz : f d = de.zero) (hf : V.free.frees de.zero = true) (hs : de.size = s) :
    QEv P E gl tm ob id (.makeSlice t l c) (.ref id 0 (rws f (List.replicate n.toNat d)).length) [(id, .rows s (rws f (List.replicate n.toNat d)) false)] := by
  subst hs; exact .makeM ht he hl hc hg hb hz hf
end Go.AM
