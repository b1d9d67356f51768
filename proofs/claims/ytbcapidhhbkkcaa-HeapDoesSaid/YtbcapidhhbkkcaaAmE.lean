/- Helper lemmas for the claim's theorem: an abstract machine over the model, proved sound; no condition beyond each lemma's own. -/
import Derived.Test.YtbcapidhhbkkcaaAmD
import Derived.Deep.AppendSrc
set_option linter.unusedVariables false
set_option linter.unusedSimpArgs false
set_option linter.unnecessarySimpa false
set_option linter.unusedSectionVars false
namespace Go.AM
open Go Go.RowKit

variable {P : Program} {E : Env} {gl : List (Nat × List V)}

theorem RCr.flat {w : World} {pr : Nat → Prop} {b s : Nat} : ∀ {rows : List (List V)} {off : Nat}, RCr w pr b s off rows → ∃ cs, w.rangeAt b off cs ∧ cs.length = rows.length * s ∧ RCs w pr rows.flatten cs
  | _, off, .nil .. => ⟨[], fun j v h => by simp at h, by simp, .nil⟩
  | _, off, .cons (cs := cs) (rows := rows) ha hl h t => by
    obtain ⟨ds, h1, h2, h3⟩ := RCr.flat t
    have hlen := h.length
    exact ⟨cs ++ ds, rangeAt_append' ha (by rwa [← hlen, hl]), by rw [List.length_append, h2, List.length_cons, Nat.add_mul]; omega, by rw [List.flatten_cons]; exact h.append h3⟩
where
  rangeAt_append' {w : World} {b : Nat} {xs ys : List Value} {o : Nat} (h1 : w.rangeAt b o xs) (h2 : w.rangeAt b (o + xs.length) ys) : w.rangeAt b o (xs ++ ys) := fun j v hv => by
    by_cases hj : j < xs.length
    · rw [List.getElem?_append_left hj] at hv
      exact h1 j v hv
    · rw [List.getElem?_append_right (by omega)] at hv
      have := h2 (j - xs.length) v hv
      rwa [show o + xs.length + (j - xs.length) = o + j by omega] at this

theorem RCr.unflat {w : World} {pr : Nat → Prop} {b s : Nat} : ∀ {rows : List (List V)} {off : Nat} {cs : List Value}, (∀ r ∈ rows, r.length = s) → w.rangeAt b off cs → RCs w pr rows.flatten cs → RCr w pr b s off rows
  | [], off, cs, _, _, _ => .nil ..
  | r :: rows, off, cs, hl, ha, h => by
    rw [List.flatten_cons] at h
    have hr := hl r (List.mem_cons_self ..)
    have h1 := h.take r.length
    have h2 := h.drop r.length
    rw [List.take_left] at h1
    rw [List.drop_left] at h2
    have hlen := h1.length
    refine .cons (cs := cs.take r.length) (fun j v hv => ?_) hr h1 (RCr.unflat (fun r hr => hl r (List.mem_cons_of_mem _ hr)) (cs := cs.drop r.length) (fun j v hv => ?_) h2)
    · rw [List.getElem?_take] at hv
      split at hv
      · exact ha j v hv
      · cases hv
    · rw [List.getElem?_drop] at hv
      have := ha (r.length + j) v hv
      rwa [show off + s + j = off + (r.length + j) by omega]

theorem RCr.lens {w : World} {pr : Nat → Prop} {b s off : Nat} {rows : List (List V)} (h : RCr w pr b s off rows) : ∀ r ∈ rows, r.length = s := fun r hr => by
  obtain ⟨i, hi⟩ := List.getElem?_of_mem hr
  obtain ⟨cs, _, h2, _⟩ := h.get hi
  exact h2

theorem RCr.app {w : World} {pr : Nat → Prop} {b s : Nat} : ∀ {xs ys : List (List V)} {off : Nat}, RCr w pr b s off xs → RCr w pr b s (off + xs.length * s) ys → RCr w pr b s off (xs ++ ys)
  | _, ys, off, .nil .., h => by simpa using h
  | _, ys, off, .cons (rows := rows) ha hl hc t, h => .cons ha hl hc (RCr.app t (by
      rw [List.length_cons, Nat.add_mul, Nat.one_mul, Nat.add_comm (rows.length * s) s, ← Nat.add_assoc] at h
      exact h))

/-- What a slice holds. -/
inductive RowsOf (ob : List (Id × Obj)) : V → Nat → List (List V) → Prop
  | sl (s : Nat) (rows : List (List V)) : RowsOf ob (.sl s rows) s rows
  | nils (s : Nat) : RowsOf ob .nils s []
  | emp (s : Nat) : RowsOf ob .emp s []
  | full {o : Id} {s len : Nat} {rs : List (List V)} {fz : Bool} (h : oget ob o = some (.rows s rs fz)) (hl : len = rs.length) : RowsOf ob (.ref o 0 len) s rs
  | part {o : Id} {s row len : Nat} {rs : List (List V)} {fz : Bool} (h : oget ob o = some (.rows s rs fz)) (hl : row + len ≤ rs.length) : RowsOf ob (.ref o row len) s ((rs.drop row).take len)

theorem RowsOf.rc {n : Nat} {tm : List (Nat × V)} {ob : List (Id × Obj)} {ts : Array Value} {w : World} {B : BM} {pr : Nat → Prop} (q : QSim gl n tm ob ts w B pr) {v : V} {s : Nat} {rows : List (List V)} (h : RowsOf ob v s rows) {c : Value} (hc : RC w B pr v c) :
    ∃ a cap, c = .slice a rows.length cap ∧ rows.length ≤ cap ∧ (rows = [] ∨ ∃ b off, a = some ⟨b, off, none⟩ ∧ RCr w pr b s off rows) := by
  have hpart : ∀ {o : Id} {s row len : Nat} {rs : List (List V)} {fz : Bool}, oget ob o = some (.rows s rs fz) → row + len ≤ rs.length → RC w B pr (.ref o row len) c →
      ∃ a cap, c = .slice a ((rs.drop row).take len).length cap ∧ ((rs.drop row).take len).length ≤ cap ∧ ((rs.drop row).take len = [] ∨ ∃ b off, a = some ⟨b, off, none⟩ ∧ RCr w pr b s off ((rs.drop row).take len)) := by
    intro o s row len rs fz ho hl hc
    have hlen : ((rs.drop row).take len).length = len := by rw [List.length_take, List.length_drop]; omega
    rw [hlen]
    cases hc with
    | base h => cases h
    | ref hB hr hcap =>
      rename_i cap bd
      refine ⟨_, _, rfl, hcap, .inr ⟨_, _, rfl, ?_⟩⟩
      rcases q.obs _ _ ho (by simp) with ⟨bd', hB', ⟨hs, _, _, _, _, hrc⟩, _⟩ | ⟨hB', _⟩
      · rw [hB] at hB'; injection hB' with hB'; subst hB'
        rw [hs]
        exact (hrc.drop row).take len
      · rw [hB] at hB'; cases hB'
    | ref0 => exact ⟨_, _, rfl, Nat.le_refl _, .inl (by simp)⟩
  cases h with
  | sl =>
    cases hc with
    | base h => cases h with
      | sl0 => exact ⟨_, _, rfl, Nat.zero_le _, .inl rfl⟩
      | sl hp hn hcap hr => exact ⟨_, _, rfl, hcap, .inr ⟨_, _, rfl, hr⟩⟩
  | nils =>
    cases hc with
    | base h => cases h; exact ⟨_, _, rfl, Nat.le_refl _, .inl rfl⟩
  | emp =>
    cases hc with
    | base h => cases h; exact ⟨_, _, rfl, Nat.le_refl _, .inl rfl⟩
  | full ho hl =>
    subst hl
    have := hpart ho (Nat.le_of_eq (Nat.zero_add _)) hc
    simpa using this
  | part ho hl => exact hpart ho hl hc

/-- An object is no more. -/
theorem Sim.kill {w0 : World} {pr0 ow : Nat → Prop} {n : Nat} {tm : List (Nat × V)} {ob : List (Id × Obj)} {out : List (Nat × List (Nat × V))} {pa : Id} {a : Act} {ao : List (Array Value)} {w : World} {B : BM} {pr : Nat → Prop}
    (h : Sim gl w0 pr0 ow ⟨n, tm, ob, out, pa⟩ a ao w B pr) {o : Id} {x : Obj} (ho : oget ob o = some x) : Sim gl w0 pr0 ow ⟨n, tm, (o, .dead) :: ob, out, pa⟩ a ao w B pr := by
  have hget : ∀ o', oget ((o, Obj.dead) :: ob) o' = if idEq o o' then some .dead else oget ob o' := fun o' => by
    simp only [oget]
    split <;> simp_all
  refine { h with obn := fun o' h1 => ?_, obs := fun o' y h1 => ?_, inj := fun o1 o2 b1 b2 a1 a2 => ?_ }
  · simp only [hget] at h1
    split at h1
    · cases h1
    · exact h.obn o' h1
  · simp only [hget] at h1
    split at h1
    · injection h1 with h1; subst h1
      exact .inl ⟨rfl, fun bd hb => h.lt hb⟩
    · exact h.obs o' y h1
  · have key : ∀ o', oget ((o, Obj.dead) :: ob) o' ≠ some .dead → oget ob o' ≠ some .dead := fun o' ha => by
      rw [hget] at ha
      split at ha
      · exact absurd rfl ha
      · exact ha
    exact h.inj o1 o2 b1 b2 (key _ a1) (key _ a2)

/-- An object's rows, from one on, by another name. -/
theorem Sim.hand {w0 : World} {pr0 ow : Nat → Prop} {n : Nat} {tm : List (Nat × V)} {ob : List (Id × Obj)} {out : List (Nat × List (Nat × V))} {pa : Id} {a : Act} {ao : List (Array Value)} {w : World} {B : BM} {pr : Nat → Prop}
    (h : Sim gl w0 pr0 ow ⟨n, tm, ob, out, pa⟩ a ao w B pr) {o id : Id} {s row : Nat} {rs : List (List V)} {bd : Bd} (ho : oget ob o = some (.rows s rs false)) (hB : B o = some bd) (hrow : row ≤ rs.length) (hf : oget ob id = none) :
    Sim gl w0 pr0 ow ⟨n, tm, (id, .rows s (rs.drop row) false) :: (o, .dead) :: ob, out, pa⟩ a ao w (AM.upd B id ⟨bd.b, bd.base + row * bd.s, bd.s, bd.lim - row⟩) pr := by
  have hBn : B id = none := h.obn id hf
  have hne : o ≠ id := fun e => by subst e; rw [ho] at hf; cases hf
  have hmono := upd_mono (bd := ⟨bd.b, bd.base + row * bd.s, bd.s, bd.lim - row⟩) hBn
  have hl : Like pr w w := Like.refl _ _
  have hget : ∀ o', oget ((id, Obj.rows s (rs.drop row) false) :: (o, Obj.dead) :: ob) o' = if idEq id o' then some (.rows s (rs.drop row) false) else if idEq o o' then some .dead else oget ob o' := fun o' => by
    simp only [oget]
    split
    · simp_all
    · split <;> simp_all
  rcases h.obs o _ ho with ⟨g1, _⟩ | ⟨_, ⟨bd', g1, ⟨k1, k2, k3, k4, k5, k6⟩, glo⟩ | ⟨g1, _⟩⟩
  · cases g1
  · rw [hB] at g1; injection g1 with g1; subst g1
    refine ⟨h.dfr, h.tms.move hl (fun _ h => h) hmono, h.outs.move hl (fun _ h => h) hmono, fun o' h1 => ?_, fun o' y h1 => ?_, fun o1 o2 b1 b2 a1 a2 e1 e2 e3 => ?_, h.pra, h.prm, h.prn, h.glo, h.kp⟩
    · rw [hget] at h1
      split at h1
      · cases h1
      · rename_i e
        split at h1
        · cases h1
        · rw [upd_other _ _ (fun e' => e (idEq_iff.2 e'.symm))]
          exact h.obn o' h1
    · rw [hget] at h1
      split at h1
      · rename_i e
        obtain rfl := idEq_iff.1 e
        injection h1 with h1; subst h1
        refine .inr ⟨by simp, .inl ⟨_, upd_self .., ⟨k1, ?_, k3, k4, fun _ => ?_, ?_⟩, glo⟩⟩
        · show (rs.drop row).length ≤ bd.lim - row
          rw [List.length_drop]; omega
        · refine there_part (k5 rfl) ?_
          show row * bd.s + (bd.lim - row) * s ≤ bd.lim * s
          rw [k1, ← Nat.add_mul]
          exact Nat.mul_le_mul_right _ (by omega)
        · have := k6.drop row
          rw [k1]
          exact this
      · rename_i e
        have hoid : o' ≠ id := fun e' => e (idEq_iff.2 e'.symm)
        split at h1
        · injection h1 with h1; subst h1
          exact .inl ⟨rfl, fun bd hb => h.lt (by rwa [upd_other _ _ hoid] at hb)⟩
        · rcases h.obs o' y h1 with ⟨g1, g2⟩ | ⟨g1, g2⟩
          · exact .inl ⟨g1, fun bd hb => g2 bd (by rwa [upd_other _ _ hoid] at hb)⟩
          · refine .inr ⟨g1, ?_⟩
            rcases g2 with ⟨bd2, q1, q2, q3⟩ | ⟨q1, q2⟩
            · exact .inl ⟨bd2, by rw [upd_other _ _ hoid]; exact q1, q2.move rfl (Nat.le_refl _) hl (fun _ h => h) (fun _ h => .inl h) hmono, q3⟩
            · exact .inr ⟨by rw [upd_other _ _ hoid]; exact q1, q2⟩
    · have key : ∀ o', o' ≠ id → oget ((id, Obj.rows s (rs.drop row) false) :: (o, Obj.dead) :: ob) o' ≠ some .dead → o' ≠ o ∧ oget ob o' ≠ some .dead := fun o' hne ha => by
        rw [hget, if_neg (fun e => hne (idEq_iff.1 e).symm)] at ha
        split at ha
        · exact absurd rfl ha
        · rename_i e
          exact ⟨fun e' => e (idEq_iff.2 e'.symm), ha⟩
      have hod : oget ob o ≠ some .dead := by rw [ho]; simp
      by_cases c1 : o1 = id
      · by_cases c2 : o2 = id
        · rw [c1, c2]
        · exfalso
          obtain ⟨d1, d2⟩ := key _ c2 a2
          rw [c1, upd_self] at e1
          injection e1 with e1; subst e1
          rw [upd_other _ _ c2] at e2
          exact d1 (h.inj o2 o _ _ d2 hod e2 hB e3.symm)
      · obtain ⟨d1, d2⟩ := key _ c1 a1
        by_cases c2 : o2 = id
        · exfalso
          rw [c2, upd_self] at e2
          injection e2 with e2; subst e2
          rw [upd_other _ _ c1] at e1
          exact d1 (h.inj o1 o _ _ d2 hod e1 hB e3)
        · obtain ⟨d3, d4⟩ := key _ c2 a2
          rw [upd_other _ _ c1] at e1
          rw [upd_other _ _ c2] at e2
          exact h.inj o1 o2 _ _ d2 d4 e1 e2 e3
  · rw [hB] at g1; cases g1

/-- What an append may add to: what is there already, and the object that is no more behind it. -/
inductive AppD (ob : List (Id × Obj)) : V → Nat → List (List V) → List (Id × Obj) → Prop
  | nils (s : Nat) : AppD ob .nils s [] []
  | emp (s : Nat) : AppD ob .emp s [] []
  | full {o : Id} {s len : Nat} {rs : List (List V)} (h : oget ob o = some (.rows s rs false)) (hl : len = rs.length) : AppD ob (.ref o 0 len) s rs [(o, .dead)]
  | part {o : Id} {s row len : Nat} {rs : List (List V)} (h : oget ob o = some (.rows s rs false)) (hl : row + len = rs.length) : AppD ob (.ref o row len) s (rs.drop row) [(o, .dead)]

theorem append_none {t tx ty e e' : Nat} {i : TypeInfo} {a : Option Addr} {x : Option Addr} {cx : Nat} {w : World} (ht : P.underlying t = some (.slice e)) (hx : P.underlying tx = some (.slice e')) (hi : P.info? e = some i) :
    (Builtin.append_ #[t, tx] ty #[.slice a 0 0, .slice x 0 cx]).run P w = .ok (.slice a 0 0) w := by
  cases a <;> cases x <;> simp [Builtin.append_, run_underlying ht, run_underlying hx, sizeOf, typeInfo, hi, Builtin.lenOf, Builtin.firstCells, loadCells, loadCellsFrom, storeCells]

end Go.AM

namespace Go.AM
open Go Go.RowKit

variable {P : Program} {E : Env} {gl : List (Nat × List V)}

theorem ones_flat : ∀ {rows : List (List V)}, (∀ r ∈ rows, V.ones r = true) → V.ones rows.flatten = true
  | [], _ => rfl
  | r :: rs, h => by
    rw [List.flatten_cons]
    have h1 := h r (List.mem_cons_self ..)
    have h2 := ones_flat (fun r hr => h r (List.mem_cons_of_mem _ hr))
    clear h
    induction r with
    | nil => exact h2
    | cons v r ih =>
      simp only [V.ones, Bool.and_eq_true, List.cons_append] at h1 ⊢
      exact ⟨h1.1, ih h1.2⟩

theorem flat_length {s : Nat} : ∀ {rows : List (List V)}, (∀ r ∈ rows, r.length = s) → rows.flatten.length = rows.length * s
  | [], _ => by simp
  | r :: rs, h => by
    rw [List.flatten_cons, List.length_append, h r (List.mem_cons_self ..), flat_length (fun r hr => h r (List.mem_cons_of_mem _ hr)), List.length_cons, Nat.add_mul]
    omega

/-- What the second argument of an append brings. -/
theorem append_src {n : Nat} {tm : List (Nat × V)} {ob : List (Id × Obj)} {ts : Array Value} {w : World} {B : BM} {pr : Nat → Prop} (q : QSim gl n tm ob ts w B pr) {v : V} {s : Nat} {rows : List (List V)} (h : RowsOf ob v s rows) {c : Value} (hc : RC w B pr v c)
    {tx e' : Nat} (hk : P.underlying tx = some (.slice e')) (h1 : ∀ r ∈ rows, V.ones r = true) :
    ∃ nc, Src P s tx c rows.length nc w ∧ RCs w pr rows.flatten nc ∧ (∀ r ∈ rows, r.length = s) ∧ (rows = [] → ∃ x cx, c = .slice x 0 cx) := by
  obtain ⟨a, cap, rfl, hcap, hr⟩ := h.rc q hc
  by_cases h0 : rows = []
  · subst h0
    refine ⟨[], ?_, .nil, by simp, fun _ => ⟨_, _, rfl⟩⟩
    cases a with
    | none => exact Src.ofNil w hk cap
    | some a => exact Src.ofSlice w hk a 0 cap [] (by simp) (by simp) (by simp)
  · obtain ⟨b, off, ha, hrr⟩ := hr.resolve_left h0
    subst ha
    obtain ⟨nc, n1, n2, n3⟩ := hrr.flat
    refine ⟨nc, Src.ofSlice w hk _ _ cap nc n2 (fun j u hu => by rw [Addr.add_mid]; exact n1 j u hu) ?_, n3, hrr.lens, fun h => absurd h h0⟩
    exact (RCl.of (B := B) n3).one_cells (ones_flat h1)

theorem append_grow {w0 : World} {pr0 ow : Nat → Prop} {n : Nat} {tm : List (Nat × V)} {ob : List (Id × Obj)} {out : List (Nat × List (Nat × V))} {pa : Id} {a : Act} {ao : List (Array Value)} {w : World} {B : BM} {pr : Nat → Prop}
    (h : Sim gl w0 pr0 ow ⟨n, tm, ob, out, pa⟩ a ao w B pr) {id : Id} (hf : oget ob id = none) (hE : E.good P = true) {t tx ty e sz bt sz' bt' e' : Nat} {z z' : List V} {de : Ty}
    (ht : ety E t = some ⟨.sli e, sz, bt, z⟩) (htx : ety E tx = some ⟨.sli e', sz', bt', z'⟩) (he : ety E e = some de)
    {base : Option Addr} {sLen sCap : Nat} {olds rows : List (List V)} {oc nc : List Value} {x : Value}
    (hol : olds.length = sLen) (hol' : ∀ r ∈ olds, r.length = de.size) (hoc : RCs w pr olds.flatten oc) (hold : (Builtin.firstCells de.size sLen (.slice base sLen sCap)).run P w.drew = .ok oc.toArray w.drew)
    (hs : Src P de.size tx x rows.length nc w) (hnc : RCs w pr rows.flatten nc) (hrl : ∀ r ∈ rows, r.length = de.size)
    (hg : sCap < sLen + rows.length) (h63 : olds.length + rows.length ≤ 9223372036854775807) (h48 : (olds.length + rows.length) * de.bytes ≤ 140737488355328) :
    ∃ w' B' cv, (Builtin.append_ #[t, tx] ty #[.slice base sLen sCap, x]).run P w = .ok cv w' ∧ Sim gl w0 pr0 ow ⟨n, tm, (id, .rows de.size (olds ++ rows) false) :: ob, out, pa⟩ a ao w' B' pr ∧ RC w' B' pr (.ref id 0 (olds.length + rows.length)) cv := by
  obtain ⟨u, hu, hfit⟩ := ty_under (Env.ok hE ht)
  rw [fits_sli hfit] at hu
  obtain ⟨i, ue, hi, _, hsz, hby, _, _, hzl, zv, hzv, hjz, _⟩ := (Env.ok hE he).ex
  have hzsz : zv.cells.size = de.size := by
    have := (justs_rc (w := w) (pr := pr) hjz).length
    rw [hzl] at this
    simpa using this.symm
  subst hol
  have hcap := grownCap_ge w (olds.length + rows.length) sCap e
  have hrun := run_append_grow_src (P := P) w t tx ty e i zv hu hi hzv base olds.length sCap oc (by rw [hsz]; exact hold) x rows.length nc (by rw [hsz]; exact hs) hg (by omega)
    (by
      have h1 : Builtin.nextslicecap (olds.length + rows.length) sCap * i.bytes ≤ 2 * (olds.length + rows.length) * i.bytes := Nat.mul_le_mul_right _ (nextslicecap_le hg)
      rw [hby] at h1 ⊢
      rw [Nat.mul_assoc] at h1
      omega)
  refine ⟨_, AM.upd B id ⟨w.heap.size, 0, de.size, grownCap w (olds.length + rows.length) sCap e⟩, _, hrun, ?_, ?_⟩
  · have hd := h.drew (w.drawn + 1)
    have hBn : B id = none := h.obn id hf
    have hlk : Like pr w (w.drew.alloc (.cells ((oc ++ nc).toArray ++ Builtin.zeroCells zv.cells (grownCap w (olds.length + rows.length) sCap e - (olds.length + rows.length))) e)) := fun b hb => alloc_old _ _ (h.pra b hb)
    have hnl : nc.length = rows.length * de.size := hs.newsLen
    have hol2 : oc.length = olds.length * de.size := by
      rw [← hoc.length]
      exact flat_length hol'
    refine hd.grow (nw := [(id, .rows de.size (olds ++ rows) false)]) (Ext.new (w := w.drew) hd.pra _ (by simp) ?_) (fun o y hy => ?_)
    · refine ⟨rfl, by rw [List.length_append]; exact hcap, ⟨fun hp => absurd (h.pra _ hp) (Nat.lt_irrefl _), fun hx => (by cases hx)⟩, by rw [alloc_size]; exact Nat.lt_succ_self _, fun _ => ?_, ?_⟩
      · have h1 := there_new w.drew ((oc ++ nc).toArray ++ Builtin.zeroCells zv.cells (grownCap w (olds.length + rows.length) sCap e - (olds.length + rows.length))) e
        have hsize : ((oc ++ nc).toArray ++ Builtin.zeroCells zv.cells (grownCap w (olds.length + rows.length) sCap e - (olds.length + rows.length))).size = grownCap w (olds.length + rows.length) sCap e * de.size := by
          rw [Array.size_append, size_zeroCells, hzsz, List.size_toArray, List.length_append, hol2, hnl, ← Nat.add_mul, ← Nat.add_mul]
          congr 1
          omega
        rw [hsize] at h1
        exact h1
      · refine RCr.unflat (cs := oc ++ nc) (fun r hr => ?_) ?_ ?_
        · rcases List.mem_append.1 hr with hr | hr
          · exact hol' r hr
          · exact hrl r hr
        · have h1 := range_new w.drew ((oc ++ nc).toArray ++ Builtin.zeroCells zv.cells (grownCap w (olds.length + rows.length) sCap e - (olds.length + rows.length))) e
          intro j v hv
          refine h1 j v ?_
          have hj := (List.getElem?_eq_some_iff.1 hv).1
          rw [Array.toList_append, List.toList_toArray, List.getElem?_append_left hj]
          exact hv
        · rw [List.flatten_append]
          exact (hoc.append hnc).move hlk (fun _ h => h)
    · simp only [oget] at hy
      split at hy
      · rename_i e
        rw [← idEq_iff.1 e]; exact hf
      · cases hy
  · have := RC.ref (w := w.drew.alloc (.cells ((oc ++ nc).toArray ++ Builtin.zeroCells zv.cells (grownCap w (olds.length + rows.length) sCap e - (olds.length + rows.length))) e)) (pr := pr) (row := 0) (len := olds.length + rows.length) (cap := grownCap w (olds.length + rows.length) sCap e)
      (upd_self B id ⟨w.heap.size, 0, de.size, grownCap w (olds.length + rows.length) sCap e⟩) (by simp) hcap
    simpa using this


theorem Sim.empty {w0 : World} {pr0 ow : Nat → Prop} {n : Nat} {tm : List (Nat × V)} {ob : List (Id × Obj)} {out : List (Nat × List (Nat × V))} {pa : Id} {a : Act} {ao : List (Array Value)} {w : World} {B : BM} {pr : Nat → Prop}
    (h : Sim gl w0 pr0 ow ⟨n, tm, ob, out, pa⟩ a ao w B pr) {id : Id} (hf : oget ob id = none) (s : Nat) : Sim gl w0 pr0 ow ⟨n, tm, (id, .rows s [] false) :: ob, out, pa⟩ a ao w B pr := by
  have hBn : B id = none := h.obn id hf
  have hget : ∀ o', oget ((id, Obj.rows s [] false) :: ob) o' = if idEq id o' then some (.rows s [] false) else oget ob o' := fun o' => by
    simp only [oget]
    split <;> simp_all
  refine { h with obn := fun o' h1 => ?_, obs := fun o' y h1 => ?_, inj := fun o1 o2 b1 b2 a1 a2 e1 e2 e3 => ?_ }
  · rw [hget] at h1
    split at h1
    · cases h1
    · exact h.obn o' h1
  · rw [hget] at h1
    split at h1
    · rename_i e
      obtain rfl := idEq_iff.1 e
      injection h1 with h1; subst h1
      exact .inr ⟨by simp, .inr ⟨hBn, _, _, rfl⟩⟩
    · exact h.obs o' y h1
  · have key : ∀ o' b', B o' = some b' → oget ((id, Obj.rows s [] false) :: ob) o' ≠ some .dead → oget ob o' ≠ some .dead := fun o' b' hb ha => by
      rw [hget] at ha
      split at ha
      · rename_i e
        obtain rfl := idEq_iff.1 e
        rw [hBn] at hb; cases hb
      · exact ha
    exact h.inj o1 o2 b1 b2 (key _ _ e1 a1) (key _ _ e2 a2) e1 e2 e3

theorem append_any {w0 : World} {pr0 ow : Nat → Prop} {n : Nat} {tm : List (Nat × V)} {ob kl : List (Id × Obj)} {out : List (Nat × List (Nat × V))} {pa : Id} {a : Act} {ao : List (Array Value)} {w : World} {B : BM} {pr : Nat → Prop}
    (h : Sim gl w0 pr0 ow ⟨n, tm, ob, out, pa⟩ a ao w B pr) {id : Id} (hf : oget ob id = none) (hE : E.good P = true) {t tx ty e sz bt sz' bt' e' : Nat} {z z' : List V} {de : Ty}
    (ht : ety E t = some ⟨.sli e, sz, bt, z⟩) (htx : ety E tx = some ⟨.sli e', sz', bt', z'⟩) (he : ety E e = some de)
    {vd vx : V} {olds rows : List (List V)} {cd cx : Value} (hd : AppD ob vd de.size olds kl) (hx : RowsOf ob vx de.size rows) (hcd : RC w B pr vd cd) (hcx : RC w B pr vx cx) (h1 : ∀ r ∈ rows, V.ones r = true)
    (h63 : olds.length + rows.length ≤ 9223372036854775807) (h48 : (olds.length + rows.length) * de.bytes ≤ 140737488355328) :
    ∃ w' B' cv, (Builtin.append_ #[t, tx] ty #[cd, cx]).run P w = .ok cv w' ∧ Sim gl w0 pr0 ow ⟨n, tm, (id, .rows de.size (olds ++ rows) false) :: (kl ++ ob), out, pa⟩ a ao w' B' pr ∧ RC w' B' pr (.ref id 0 (olds.length + rows.length)) cv := by
  obtain ⟨u, hu, hfit⟩ := ty_under (Env.ok hE ht)
  rw [fits_sli hfit] at hu
  obtain ⟨ux, hux, hfitx⟩ := ty_under (Env.ok hE htx)
  rw [fits_sli hfitx] at hux
  obtain ⟨i, ue, hi, _, hsz, _⟩ := (Env.ok hE he).ex
  obtain ⟨nc, hs, hnc, hrl, hnil⟩ := append_src (P := P) h.q hx hcx hux h1
  -- nothing is there
  have nowhere : ∀ ad : Option Addr, cd = .slice ad 0 0 → olds = [] → (∀ b, oget (kl ++ ob) b = none ↔ oget ob b = none) → Sim gl w0 pr0 ow ⟨n, tm, kl ++ ob, out, pa⟩ a ao w B pr →
      ∃ w' B' cv, (Builtin.append_ #[t, tx] ty #[cd, cx]).run P w = .ok cv w' ∧ Sim gl w0 pr0 ow ⟨n, tm, (id, .rows de.size (olds ++ rows) false) :: (kl ++ ob), out, pa⟩ a ao w' B' pr ∧ RC w' B' pr (.ref id 0 (olds.length + rows.length)) cv := by
    rintro ad rfl rfl hfr hk
    have hf' := (hfr id).2 hf
    by_cases h0 : rows = []
    · obtain ⟨x, c, rfl⟩ := hnil h0
      subst h0
      exact ⟨w, B, _, append_none hu hux hi, hk.empty hf' _, .ref0 ..⟩
    · refine append_grow hk hf' hE ht htx he (oc := []) (sLen := 0) (sCap := 0) rfl (by simp) .nil ?_ hs hnc hrl (by
        have : 0 < rows.length := List.length_pos_iff.2 h0
        omega) h63 h48
      cases ad with
      | none => exact run_firstCells_none w.drew de.size 0 0 0
      | some ad => exact run_firstCells_some w.drew de.size 0 ad 0 0 [] (by simp) (by simp)
  have main : ∀ {o : Id} {row len : Nat} {rs : List (List V)}, vd = .ref o row len → oget ob o = some (.rows de.size rs false) → row + len = rs.length → olds = rs.drop row → kl = [(o, .dead)] →
      ∃ w' B' cv, (Builtin.append_ #[t, tx] ty #[cd, cx]).run P w = .ok cv w' ∧ Sim gl w0 pr0 ow ⟨n, tm, (id, .rows de.size (olds ++ rows) false) :: (kl ++ ob), out, pa⟩ a ao w' B' pr ∧ RC w' B' pr (.ref id 0 (olds.length + rows.length)) cv := by
    rintro o row len rs rfl ho hl rfl rfl
    have hoid : o ≠ id := fun e => by subst e; rw [ho] at hf; cases hf
    have hfr : ∀ b, oget ([(o, Obj.dead)] ++ ob) b = none ↔ oget ob b = none := fun b => by
      simp only [List.cons_append, List.nil_append, oget]
      split
      · rename_i e
        obtain rfl := idEq_iff.1 e
        simp [ho]
      · exact Iff.rfl
    have hk : Sim gl w0 pr0 ow ⟨n, tm, [(o, .dead)] ++ ob, out, pa⟩ a ao w B pr := h.kill ho
    have hlen : (rs.drop row).length = len := by rw [List.length_drop]; omega
    rcases hcd.ref_inv with ⟨rfl, ad, rfl⟩ | ⟨bd, cap, hB, hr, hc, rfl⟩
    · exact nowhere ad rfl (List.eq_nil_of_length_eq_zero hlen) hfr hk
    · rcases h.obs o _ ho with ⟨g1, _⟩ | ⟨_, ⟨bd', g1, ⟨k1, k2, k3, k4, k5, k6⟩, glo⟩ | ⟨g1, _⟩⟩
      · cases g1
      · rw [hB] at g1; injection g1 with g1; subst g1
        have hnp : ¬ pr bd.b := fun hb => by cases k3.1 hb
        have hnl : nc.length = rows.length * de.size := hs.newsLen
        by_cases hroom : len + rows.length ≤ cap
        · have hth : w.there bd.b (bd.base + rs.length * de.size) nc.length := by
            refine there_part (k5 rfl) ?_
            rw [hnl, ← Nat.add_mul]
            exact Nat.mul_le_mul_right _ (by omega)
          have hoff : bd.base + row * bd.s + len * i.size = bd.base + rs.length * de.size := by
            rw [k1, hsz, Nat.add_assoc, ← Nat.add_mul, hl]
          have hrun := run_append_room_src (P := P) w t tx ty e i hu hi bd.b (bd.base + row * bd.s) len cap cx rows.length nc (by rw [hsz]; exact hs) hroom
            (fun j hj => by rw [hoff]; exact (hth j hj).1) (fun j hj => by rw [hoff]; exact (hth j hj).2)
          rw [hoff] at hrun
          have hone := One.set w bd.b (bd.base + rs.length * de.size) nc
          have hlk : Like pr w (w.setCells bd.b (bd.base + rs.length * de.size) nc) := fun b hb => hone.block b (fun e => hnp (e ▸ hb))
          have hup : Sim gl w0 pr0 ow ⟨n, tm, (o, .rows de.size (rs ++ rows) false) :: ob, out, pa⟩ a ao (w.setCells bd.b (bd.base + rs.length * de.size) nc) B pr := by
            refine h.upd ho (by simp) (by simp) hB hnp hone ⟨k1, by rw [List.length_append]; omega, k3, by rw [hone.size]; exact k4, fun h => World.there_setCells (k5 h) _ _ _, RCr.app (RCr.mk fun j r hj => ?_) ?_⟩
            · obtain ⟨ds, d1, d2, d3⟩ := k6.get hj
              have hjl := (List.getElem?_eq_some_iff.1 hj).1
              refine ⟨ds, World.rangeAt_setCells_apart d1 _ _ _ (.inr (.inl ?_)), d2, d3.move hlk (fun _ h => h)⟩
              have : (j + 1) * de.size ≤ rs.length * de.size := Nat.mul_le_mul_right _ hjl
              rw [Nat.add_mul] at this
              have := d3.length
              omega
            · exact RCr.unflat hrl (World.rangeAt_setCells_same w _ _ nc hth) (hnc.move hlk (fun _ h => h))
          have hget : oget ((o, Obj.rows de.size (rs ++ rows) false) :: ob) o = some (.rows de.size (rs ++ rows) false) := by simp [oget, idEq_iff.2 rfl]
          have hf2 : oget ((o, Obj.rows de.size (rs ++ rows) false) :: ob) id = none := by
            simp only [oget]
            split
            · rename_i e; exact absurd (idEq_iff.1 e) hoid
            · exact hf
          have hhand := hup.hand hget hB (by rw [List.length_append]; omega : row ≤ (rs ++ rows).length) hf2
          refine ⟨_, _, _, hrun, Sim.eqv (σ := ⟨n, tm, (id, .rows de.size ((rs ++ rows).drop row) false) :: (o, .dead) :: (o, .rows de.size (rs ++ rows) false) :: ob, out, pa⟩) (τ := ⟨n, tm, (id, .rows de.size (rs.drop row ++ rows) false) :: ([(o, .dead)] ++ ob), out, pa⟩) ⟨rfl, fun _ => rfl, fun o' => ?_, rfl, rfl⟩ hhand, ?_⟩
          · rw [List.drop_append_of_le_length (by omega)]
            simp only [List.cons_append, List.nil_append, oget]
            split
            · rfl
            · split <;> rfl
          · rw [hlen]
            have := RC.ref (w := w.setCells bd.b (bd.base + rs.length * de.size) nc) (pr := pr) (row := 0) (len := len + rows.length) (cap := cap) (upd_self B id ⟨bd.b, bd.base + row * bd.s, bd.s, bd.lim - row⟩) (by show 0 + cap ≤ bd.lim - row; omega) hroom
            simpa using this
        · obtain ⟨oc, c1, c2, c3⟩ := ((k6.drop row)).flat
          rw [hlen] at c2
          refine append_grow hk ((hfr id).2 hf) hE ht htx he hlen (k6.drop row).lens c3 (run_firstCells_some w.drew de.size len _ len cap oc c2 fun j v hv => ?_) hs hnc hrl (by omega) h63 h48
          rw [Addr.add_mid, k1]
          exact c1 j v hv
      · rw [hB] at g1; cases g1
  cases hd with
  | nils =>
    cases hcd with
    | base h' => cases h'; exact nowhere none rfl rfl (fun _ => Iff.rfl) h
  | emp =>
    obtain ⟨ad, rfl⟩ := hcd.emp_inv
    exact nowhere ad rfl rfl (fun _ => Iff.rfl) h
  | full ho hl => exact main rfl ho (by omega) (by simp) rfl
  | part ho hl => exact main rfl ho hl rfl rfl

/-- AN APPEND: what was there is handed on, by a new name; the old one is no more. -/
theorem SafeOps.append (hE : E.good P = true) {l rest : List Oper} {op : Oper} {Q : Exit → St → Prop} {n t tx e sz bt sz' bt' e' d m : Nat} {x y : Operand} {z z' : List V} {de : Ty} {tm : List (Nat × V)} {ob kl : List (Id × Obj)} {out : List (Nat × List (Nat × V))} {pa : Id} {olds rows rs : List (List V)}
    (hg : gd l tm op = some true) (hop : op.op = .call ⟨.builtin .append, #[x, y], #[t, tx]⟩) (hd : op.dst = some d) (hn : Nat.blt d n = true)
    (ht : ety E t = some ⟨.sli e, sz, bt, z⟩) (htx : ety E tx = some ⟨.sli e', sz', bt', z'⟩) (he : ety E e = some de) (hf : oget ob (pa ++ [d]) = none)
    (hx : AppD ob (ev tm x) de.size olds kl) (hy : RowsOf ob (ev tm y) de.size rows) (h1 : ∀ r ∈ rows, V.ones r = true) (hrs : olds ++ rows = rs) (hm : rs.length = m) (h48 : m * de.bytes ≤ 140737488355328) (h63 : m ≤ 9223372036854775807)
    (h : SafeOps P gl l rest Q ⟨n, (d, .ref (pa ++ [d]) 0 m) :: tm, (pa ++ [d], .rows de.size rs false) :: (kl ++ ob), out, pa⟩) : SafeOps P gl l (op :: rest) Q ⟨n, tm, ob, out, pa⟩ :=
  SafeOps.done hg fun w0 pr0 ow a ao w B pr hsim K hK => by
    subst hrs
    rw [List.length_append] at hm
    subst hm
    obtain ⟨w', B', cv, hrun, hs', hc'⟩ := append_any (P := P) (ty := op.type) hsim hf hE ht htx he hx hy (ev_rc hsim.tms x) (ev_rc hsim.tms y) h1 h63 h48
    unfold Oper.wp execOp
    rw [hop]
    simp only [resolve, invoke, builtin, Sem.run_bind, Sem.run_pure, Result.andThen_ok, List.map_toArray, List.map_cons, List.map_nil, hrun, Oper.upon]
    rw [hd]
    exact hK _ _ (h _ _ _ _ _ _ _ _ { hs' with tms := hs'.tms.put (by simpa using hn) hc' })

end Go.AM

/- A row's bound on its arguments' bytes. -/
namespace Go.AM
open Go Go.RowKit Go.ChangeShapes Go.WideShapes

/-- The arguments that are slices are of so many bytes at the most. -/
def Sized (E : Env) : List Nat → List V → Prop
  | t :: ts, u :: us => (∀ e sz bt z de s rows, ety E t = some ⟨.sli e, sz, bt, z⟩ → ety E e = some de → u = .sl s rows → rows.length * de.bytes ≤ 140737488355328) ∧ Sized E ts us
  | _, _ => True

section
variable {H : Type} {enc : TypeId × Value → H} {P : Program} {E : Env} {W : World}

theorem ty_bytes {t : Nat} {d : Ty} (h : Ty.Ok P t d) : P.bytesOf t = d.bytes := by
  obtain ⟨i, u, hi, hu, hs, hb, _⟩ := h.ex
  simp [Program.bytesOf, hi, hb]

theorem sli_weight (hE : E.good P = true) {sp : Nat → Bool} {held : Bool} {t e sz bt : Nat} {z : List V} {de : Ty} {v : Value} {d : DataW H} {p : List MemPlace} {s : Nat} {rows : List (List V)}
    (ht : ety E t = some ⟨.sli e, sz, bt, z⟩) (he : ety E e = some de) (h : DataW.Trod enc P W 0 sp held t v d p) (hrc : RC0 W (All W) (.sl s rows) v) (hw : (d.weights P t).all (· ≤ reachBytes) = true) :
    rows.length * de.bytes ≤ 140737488355328 := by
  obtain ⟨fuel, h⟩ := h
  obtain ⟨u, hu, hf⟩ := ty_under (Env.ok hE ht)
  rw [fits_sli hf] at hu
  cases hrc with
  | sl0 => simp
  | sl hp hn hc hr =>
    cases fuel with
    | zero => simp [DataW.trod] at h
    | succ fuel =>
      unfold DataW.trod at h
      rw [hu] at h
      simp only [Value.cells] at h
      split at h
      · simp only [Option.bind_eq_some_iff, Option.map_eq_some_iff] at h
        obtain ⟨elems, h1, rest, h2, h3⟩ := h
        have hlen := mapM_some_length h1
        rw [List.length_range] at hlen
        injection h3 with h3 h4
        subst h3
        unfold DataW.weights at hw
        rw [hu] at hw
        simp only [List.all_cons, Bool.and_eq_true, decide_eq_true_eq, List.length_map] at hw
        rw [ty_bytes (Env.ok hE he)] at hw
        have h5 : rows.length * de.bytes ≤ (elems.length + rest.length) * de.bytes := Nat.mul_le_mul_right _ (by omega)
        have : reachBytes ≤ 140737488355328 := by decide
        omega
      · cases h

theorem sized_args (hE : E.good P = true) {sp : Nat → Bool} {held : Bool} : ∀ {ts : List TypeId} {vs : List Value} {ds : List (DataW H)} {ps : List MemPlace} {us : List V},
    DataW.TrodAll enc P W 0 sp held ts vs ds ps → RCs W (All W) us vs → (DataW.weightsEach P ts ds).all (· ≤ reachBytes) = true → Sized E ts us
  | [], _, _, _, _, _, _, _ => by unfold Sized; trivial
  | t :: ts, _, _, _, us, h, hr, hw => by
    obtain ⟨v, vs, d, ds, p, q, rfl, rfl, rfl, h1, h2⟩ := trodAll_cons h
    cases hr with
    | cons hr1 hr2 =>
      simp only [DataW.weightsEach, List.all_append, Bool.and_eq_true] at hw
      refine ⟨fun e sz bt z de s rows ht he hu => ?_, sized_args hE h2 hr2 hw.2⟩
      subst hu
      exact sli_weight hE ht he h1 hr1 hw.1

variable {C : Checked} {os : Os}

theorem law_walkW {gl : List (Nat × List V)} {f : FuncId} {fn : Func} (hE : E.good C.prog = true) (n : Nat) (ho : opnAll E n fn.params.toList = true) (hsc : ∀ us, VArgs E fn.params.toList us → Sized E fn.params.toList us → SC C.prog gl f us (.bool true))
    {W : World} {base : Nat} {args : Array Value} {ds : List (DataW H)} {ps : List MemPlace} (hg : GlobAt W (All W) gl)
    (hval : ∀ (j : Nat) (t : TypeId) (v : Value), fn.params[j]? = some t → args[j]? = some v → Value.okWide C.prog W .any base t v)
    (hA : DataW.TrodAll enc C.prog W 0 (fun _ => true) true fn.params.toList args.toList ds ps) (hw : (DataW.weightsEach C.prog fn.params.toList ds).all (· ≤ reachBytes) = true) : Calls C.prog f args W fun e w' => e = .returned (.bool true) ∧ Below W.heap.size W w' := by
  obtain ⟨us, h1, h2⟩ := open_args (E := E) hE ho (fun j t v ht hv => hval j t v (by simpa using ht) (by simpa using hv)) hA
  have := law_calls (hsc us h2 (sized_args hE hA h1 hw)) W hg h1
  simpa using this

theorem law_liftedW {f : FuncId} {fn : Func} {s : ChangeSpec} {tb : TypeId} {apart fresh handsOn again : Bool}
    (own : ownKnob C.prog.godebug = none) (started : os.Started) (noInit : C.prog.inits.idxOf? f = none) (hfunc : C.prog.funcs[f]? = some fn)
    (hl : laidOutB C.prog = true) (hread : (fn.params.toList.all fun t => C.prog.readableRec t && decide (t < C.prog.types.size)) = true)
    (hvars : s.vars = []) (hres : fn.resultTypes = #[tb]) (hbool : C.prog.underlying tb = some .bool)
    (hfn : ∀ ds : List (DataW H), ds.length = fn.params.toList.length → s.fn H ds = { results := [.lit (.bool true)], args := ds, vars := [] })
    (witness : ∃ (w : World) (tape : Tape) (i : Input), w.os = os ∧ (w.forCall tape i).Shaped C.prog ∧ i.vars = [] ∧ Input.okWide C.prog (w.forCall tape i) .any w.heap.size f i ∧
      s.pre6 enc C.prog fn [] apart (w.forCall tape i).memory i.args ∧ ({} : Assume).holds C.prog (lone (Frame.enter C.prog f i.args .normal) [] (w.forCall tape i)))
    (walk : ∀ (W : World) (base : Nat) (args : Array Value) (ds : List (DataW H)) (ps : List MemPlace),
      (∀ (j : Nat) t v, fn.params[j]? = some t → args[j]? = some v → Value.okWide C.prog W .any base t v) →
      DataW.TrodAll enc C.prog W 0 (fun _ => true) true fn.params.toList args.toList ds ps → (∀ x ∈ ps, x.block < W.heap.size) → (DataW.weightsEach C.prog fn.params.toList ds).all (· ≤ reachBytes) = true →
      Calls C.prog f args W fun e w' => e = .returned (.bool true) ∧ Below W.heap.size W w') :
    ReturnsInHanded {} C os f .any (s.pre6 enc C.prog fn [] apart)
      (s.post enc C.prog fn apart fresh handsOn again) := by
  have hpre : s.pre6 enc C.prog fn [] apart = fun w args => (s.pre enc C.prog fn [] apart w args ∧ (fun (_ : World) (_ : Array Value) => True) w args) ∧ sizedMet enc C.prog fn (OpenSpec.ofChange s) apart w args := by
    funext w args
    simp only [and_true]
    rfl
  rw [hpre] at witness ⊢
  refine returnsInHanded_of_change_and (C := C) (X := fun _ _ => True) (fun _ _ _ _ h => h) own started noInit hfunc witness ?_
  intro W base args ds gs before hval hW _ hw _ _
  have hW' := hW
  obtain ⟨p, q, hA, hV, rfl, hfz, hnd⟩ := hW
  rw [hvars] at hV
  obtain ⟨rfl, rfl⟩ := trodVars_none hV
  have hlen : ds.length = fn.params.toList.length := trodAll_length hA
  have hplain : s.plain.varTypes C.prog = [] := by
    simp [ChangeSpec.plain, hvars, DataSpec.varTypes]
  rw [hplain, List.append_nil, List.append_nil] at hw
  refine (walk W base args ds p hval hA (fun x hx => hW'.lt x (by simpa using hx)) hw).mono fun e W' ⟨he, hb⟩ => ?_
  exact ⟨_, he, law_post hl hread hvars hres hbool (hfn ds hlen) hW' hb⟩
end
end Go.AM
