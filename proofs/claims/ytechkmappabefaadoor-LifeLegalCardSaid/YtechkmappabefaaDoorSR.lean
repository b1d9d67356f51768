/- The statement: LifeLegal answers true at every pair of states, and leaves alone what was there before, whatever it is called with; tied to the program text by its card. Conditions: none beyond the given row and card. -/
import Derived.Test.YtechkmappabefaaDoorAmC
import Derived.Test.YtechkmappabefaaDoorSB
import Derived.Test.YtechkmappabefaaDoorRows
import Derived.Test.YtechkmappabefaaDoorTie
import Derived.Test.YtechkmappabefaaDoorCards
import Derived.SevenTiedAt
import Derived.FnData
set_option linter.unusedVariables false
set_option linter.unusedSimpArgs false
namespace Go.Proofs.YtechkmappabefaaDoor
open Go Go.AM Go.ChangeShapes Go.WideShapes Go.ChangeAt Go.RowKit

theorem own : ownKnob Tryd.prog.godebug = none := by kernel_rfl
theorem laidOut : laidOutB Tryd.prog = true := by kernel_rfl
theorem glob : Tryd.prog.globalNamed "ravel/life.follows" = some 0 := by kernel_rfl
theorem globType : (Tryd.prog.globals[0]?).map (·.type) = some 43 := by kernel_rfl
theorem und43 : Tryd.prog.underlying 43 = some (.array 8 5) := by kernel_rfl
theorem und5 : Tryd.prog.underlying 5 = some (.int .u8) := by kernel_rfl
theorem und3 : Tryd.prog.underlying 3 = some (.int .i64) := by kernel_rfl
theorem und4 : Tryd.prog.underlying 4 = some .bool := by kernel_rfl
theorem cells43 : Tryd.prog.cellsOf 43 = 8 := by kernel_rfl
theorem cells5 : Tryd.prog.cellsOf 5 = 1 := by kernel_rfl

def cells8 : Array Value := #[.int .u8 0, .int .u8 132, .int .u8 250, .int .u8 130, .int .u8 130, .int .u8 130, .int .u8 130, .int .u8 0]

theorem cells_of_laid {W : World} (h : laidMet Tryd.prog [("ravel/life.follows", Rows.laid_ravel_life_follows)] W) : W.var? Tryd.prog "ravel/life.follows" = some cells8 := by
  obtain ⟨ps, ⟨g, t, cs, fuel, p, q, hg, ht, hvar, hd, _, _⟩, _⟩ := h
  obtain rfl := Option.some.inj (glob.symm.trans hg)
  obtain rfl := Option.some.inj (globType.symm.trans ht)
  rw [hvar]
  congr 1
  obtain ⟨l⟩ := cs
  cases fuel with
  | zero => simp [DataW.trod] at hd
  | succ fuel =>
    simp only [DataW.trod, und43, cells43, cells5] at hd
    split at hd
    · rename_i hl
      obtain ⟨c0, c1, c2, c3, c4, c5, c6, c7, rfl⟩ : ∃ c0 c1 c2 c3 c4 c5 c6 c7, l = [c0, c1, c2, c3, c4, c5, c6, c7] := by
        match l, hl with
        | [a, b, c, d, e, f, g, h], _ => exact ⟨a, b, c, d, e, f, g, h, rfl⟩
      have e : List.range 8 = [0, 1, 2, 3, 4, 5, 6, 7] := rfl
      rw [e] at hd
      simp only [Option.map_eq_some_iff, List.mapM_cons, List.mapM_nil, Option.bind_eq_bind, Option.bind_eq_some_iff, Option.pure_def, Option.some.injEq] at hd
      obtain ⟨xs, ⟨y0, h0, _, ⟨y1, h1, _, ⟨y2, h2, _, ⟨y3, h3, _, ⟨y4, h4, _, ⟨y5, h5, _, ⟨y6, h6, _, ⟨y7, h7, _, rfl, rfl⟩, rfl⟩, rfl⟩, rfl⟩, rfl⟩, rfl⟩, rfl⟩, rfl⟩, hx⟩ := hd
      obtain ⟨n0, rfl, rfl⟩ := ints_of_trod und5 h0
      obtain ⟨n1, rfl, rfl⟩ := ints_of_trod und5 h1
      obtain ⟨n2, rfl, rfl⟩ := ints_of_trod und5 h2
      obtain ⟨n3, rfl, rfl⟩ := ints_of_trod und5 h3
      obtain ⟨n4, rfl, rfl⟩ := ints_of_trod und5 h4
      obtain ⟨n5, rfl, rfl⟩ := ints_of_trod und5 h5
      obtain ⟨n6, rfl, rfl⟩ := ints_of_trod und5 h6
      obtain ⟨n7, rfl, rfl⟩ := ints_of_trod und5 h7
      simp [Rows.laid_ravel_life_follows] at hx
      obtain ⟨⟨rfl, rfl, rfl, rfl, rfl, rfl, rfl, rfl⟩, _⟩ := hx
      rfl
    · cases hd

theorem globAt_laid {W : World} (h : laidMet Tryd.prog [("ravel/life.follows", Rows.laid_ravel_life_follows)] W) : GlobAt W (All W) gl := by
  have hv := cells_of_laid h
  intro g cells hg
  have h0 : g = 0 ∧ cells = [.int .u8 0, .int .u8 132, .int .u8 250, .int .u8 130, .int .u8 130, .int .u8 130, .int .u8 130, .int .u8 0] := by
    cases g with
    | zero => exact ⟨rfl, (Option.some.inj hg).symm⟩
    | succ g => cases hg
  obtain ⟨rfl, rfl⟩ := h0
  have hcell := World.var?_cell glob hv
  refine ⟨?_, cells8.toList, fun j v hj => ?_, ?_⟩
  · have h1 := hcell 0
    unfold World.cell? at h1
    unfold All
    by_cases hb : 0 < W.heap.size
    · exact hb
    · rw [Array.getElem?_eq_none (by simpa using hb)] at h1
      cases h1
  · rw [Nat.zero_add, hcell j]
    simpa using hj
  · repeat (first | exact .nil | refine .cons (.int _ _) ?_)

/-- A world in which the variable is laid. -/
noncomputable def laidWorld (os : Os) : World :=
  { World.holding Tryd.prog os ⟨#[], #[], []⟩ with heap := (World.holding Tryd.prog os ⟨#[], #[], []⟩).heap.modify 0 fun
      | .cells _ t frozen => .cells cells8 t frozen
      | o => o }

theorem laidWorld_row (os : Os) (args : Array Value) : ((laidWorld os).forCall (fun _ _ => 0) ⟨#[], args, []⟩).memory.heap[0]? = some (.cells cells8 43 (0, 0)) := by kernel_rfl

theorem laidWorld_met (os : Os) (args : Array Value) : laidMet Tryd.prog [("ravel/life.follows", Rows.laid_ravel_life_follows)] ((laidWorld os).forCall (fun _ _ => 0) ⟨#[], args, []⟩).memory :=
  ⟨_, ⟨0, 43, cells8, 8, [], [], by kernel_rfl, by kernel_rfl, by kernel_rfl, by kernel_rfl, rfl, rfl⟩, by decide, fun b off h => by
    have h' : MemPlace.cell b off ∈ [MemPlace.cell 0 0, .cell 0 1, .cell 0 2, .cell 0 3, .cell 0 4, .cell 0 5, .cell 0 6, .cell 0 7] := h
    have hb : b = 0 := by
      simp at h'
      omega
    subst hb
    refine ⟨⟨_, _, laidWorld_row os args⟩, fun u v hc => ?_⟩
    simp only [World.cell?, laidWorld_row os args] at hc
    simp at h'
    rcases h' with rfl | rfl | rfl | rfl | rfl | rfl | rfl | rfl <;> simp [cells8] at hc⟩

theorem lifeLegal_lifted (os : Os) (started : os.Started) (H : Type) (enc : TypeId × Value → H) :
    ReturnsInHanded {} Tryd.checked os 5 .any (fun w args => (Rows.lifeLegalSpec.pre enc Tryd.prog Tryd.f5 [] false w args ∧ laidMet Tryd.prog [("ravel/life.follows", Rows.laid_ravel_life_follows)] w) ∧ sizedMet enc Tryd.prog Tryd.f5 (OpenSpec.ofChange Rows.lifeLegalSpec) false w args)
      (Rows.lifeLegalSpec.post enc Tryd.prog Tryd.f5 false true false false) := by
  refine law_lifted_laid (C := Tryd.checked) (tb := 4) own started (by kernel_rfl) Tryd.func5 laidOut (by kernel_rfl) rfl rfl und4 ?_ ?_ ?_
  · intro ds hds
    match ds, hds with
    | [_, _], _ => rfl
  · exact ChangeSpec.witness_at (enc := enc) (C := Tryd.checked) (os := os) (X := fun w _ => laidMet Tryd.prog [("ravel/life.follows", Rows.laid_ravel_life_follows)] w) false (laidWorld os) #[.int .i64 0, .int .i64 0] 8 rfl (by kernel_rfl) (by kernel_rfl) (by kernel_rfl) (by kernel_rfl) (by kernel_rfl) (laidWorld_met os _)
  · intro W base args ds ps hval hA hlt hw hL
    have hA : DataW.TrodAll enc Tryd.prog W 0 (fun _ => true) true [3, 3] args.toList ds ps := hA
    obtain ⟨v0, vs0, d0, ds0, p0, q0, hargs, rfl, rfl, h0, r0⟩ := trodAll_cons hA
    obtain ⟨v1, vs1, d1, ds1, p1, q1, rfl, rfl, rfl, h1, r1⟩ := trodAll_cons r0
    obtain ⟨rfl, rfl, rfl⟩ := trodAll_nil r1
    obtain rfl : args = #[v0, v1] := by cases args; simp_all
    obtain ⟨a0, rfl, rfl, rfl, w0⟩ := open_int und3 (hval 0 3 v0 rfl rfl) h0
    obtain ⟨a1, rfl, rfl, rfl, w1⟩ := open_int und3 (hval 1 3 v1 rfl rfl) h1
    exact law_calls (lifeLegal_sc a0 a1) W (globAt_laid hL) (.cons (.int _ _) (.cons (.int _ _) .nil))

theorem lifeLegal_row : Rows.LifeLegalSaid :=
  OpenClaim.holds_of_wide 5 Tryd.f5 rfl rfl rfl rfl rfl rfl rfl ⟨rfl, rfl, rfl, rfl, rfl⟩ rfl rfl rfl rfl rfl (by kernel_rfl) Tryd.func5 (by kernel_rfl)
    (of_decide_eq_true (by kernel_rfl)) (by unfold Func.isWrapper; first | (rw [if_pos (by decide +kernel)]; kernel_rfl) | (rw [if_neg (by decide +kernel)]; exact ⟨rfl, rfl⟩))
    (fun os started H enc _ => lifeLegal_lifted os started H enc)

theorem lifeLegal_card : Rows.LifeLegalCardSaid :=
  Claim7.holds_tied_plain_at .later [] [.data] true (true, "923f69615a1beaee2fd4e110d847d9d54db0c86f50a656932aee0cb630b01994") false
    lifeLegal_row (fun _ h => by cases h) (by kernel_rfl) (fun _ h => by cases h) lifeLegal_row_tie rfl ⟨rfl, rfl⟩ (by kernel_rfl) rfl
    (fun f fn hf hfn => by
      obtain rfl : f = 5 := Option.some.inj ((show Tryd.prog.funcNamed "ravel/ravellaw12.LifeLegal" = some 5 by kernel_rfl).symm.trans hf) |>.symm
      obtain rfl : fn = Tryd.f5 := (Option.some.inj (Tryd.func5.symm.trans hfn)).symm
      exact ⟨by kernel_rfl, fun j t ht => by
        have hp : Tryd.f5.params = #[3, 3] := rfl
        rw [hp] at ht
        have h3 : t = 3 := by
          rcases j with _ | _ | j
          · simpa using ht.symm
          · simpa using ht.symm
          · simp at ht
        subst h3
        exact (show Tryd.prog.wantsStandIn 3 = false by kernel_rfl)⟩)
    (by kernel_rfl)
#print axioms lifeLegal_card
end Go.Proofs.YtechkmappabefaaDoor
