/- Helper lemmas for the claim's theorem: an abstract machine over the model, proved sound; no condition beyond each lemma's own. -/
import Derived.Test.YtpkegoikocfchaaDoorAmE
import Derived.Test.YtpkegoikocfchaaDoorSEnv
import Derived.Test.YtpkegoikocfchaaDoorRows
import Derived.Test.YtpkegoikocfchaaDoorTie
import Derived.Test.YtpkegoikocfchaaDoorCards
import Derived.SevenTiedAt
import Derived.FnData
set_option linter.unusedVariables false
set_option linter.unusedSimpArgs false
set_option linter.unnecessarySimpa false
set_option linter.unusedSectionVars false
namespace Go.Proofs.YtpkegoikocfchaaDoor
open Go Go.AM Go.ChangeShapes Go.WideShapes Go.ChangeAt Go.RowKit
set_option maxRecDepth 100000
theorem own : ownKnob Tryd.prog.godebug = none := by kernel_rfl
theorem laidOut : laidOutB Tryd.prog = true := by kernel_rfl
theorem glob : Tryd.prog.globalNamed "ravel/life.follows" = some 0 := by kernel_rfl
theorem globType : (Tryd.prog.globals[0]?).map (·.type) = some 87 := by kernel_rfl
theorem undA : Tryd.prog.underlying 87 = some (.array 8 5) := by kernel_rfl
theorem undE : Tryd.prog.underlying 5 = some (.int .u8) := by kernel_rfl
theorem undb : Tryd.prog.underlying 4 = some .bool := by kernel_rfl
theorem cellsA : Tryd.prog.cellsOf 87 = 8 := by kernel_rfl
theorem cellsE : Tryd.prog.cellsOf 5 = 1 := by kernel_rfl

def cells8 : Array Value := #[.int .u8 0, .int .u8 132, .int .u8 250, .int .u8 130, .int .u8 130, .int .u8 130, .int .u8 130, .int .u8 0]

theorem cells_of_laid {W : World} (h : laidMet Tryd.prog [("ravel/life.follows", Rows.laid_ravel_life_follows)] W) : W.var? Tryd.prog "ravel/life.follows" = some cells8 := by
  obtain ⟨ps, ⟨g, t, cs, fuel, p, q, hg, ht, hvar, hd, _, _⟩, _⟩ := h
  obtain rfl := Option.some.inj (glob.symm.trans hg)
  obtain rfl := Option.some.inj (globType.symm.trans ht)
  rw [hvar]
  congr 1
  obtain ⟨l⟩ := cs
  cases fuel with
  | zero => simp [DataW.trod] at hd
  | succ fuel =>
    simp only [DataW.trod, undA, cellsA, cellsE] at hd
    split at hd
    · rename_i hl
      obtain ⟨c0, c1, c2, c3, c4, c5, c6, c7, rfl⟩ : ∃ c0 c1 c2 c3 c4 c5 c6 c7, l = [c0, c1, c2, c3, c4, c5, c6, c7] := by
        match l, hl with
        | [a, b, c, d, e, f, g, h], _ => exact ⟨a, b, c, d, e, f, g, h, rfl⟩
      have e : List.range 8 = [0, 1, 2, 3, 4, 5, 6, 7] := rfl
      rw [e] at hd
      simp only [Option.map_eq_some_iff, List.mapM_cons, List.mapM_nil, Option.bind_eq_bind, Option.bind_eq_some_iff, Option.pure_def, Option.some.injEq] at hd
      obtain ⟨xs, ⟨y0, h0, _, ⟨y1, h1, _, ⟨y2, h2, _, ⟨y3, h3, _, ⟨y4, h4, _, ⟨y5, h5, _, ⟨y6, h6, _, ⟨y7, h7, _, rfl, rfl⟩, rfl⟩, rfl⟩, rfl⟩, rfl⟩, rfl⟩, rfl⟩, rfl⟩, hx⟩ := hd
      obtain ⟨n0, rfl, rfl⟩ := ints_of_trod undE h0
      obtain ⟨n1, rfl, rfl⟩ := ints_of_trod undE h1
      obtain ⟨n2, rfl, rfl⟩ := ints_of_trod undE h2
      obtain ⟨n3, rfl, rfl⟩ := ints_of_trod undE h3
      obtain ⟨n4, rfl, rfl⟩ := ints_of_trod undE h4
      obtain ⟨n5, rfl, rfl⟩ := ints_of_trod undE h5
      obtain ⟨n6, rfl, rfl⟩ := ints_of_trod undE h6
      obtain ⟨n7, rfl, rfl⟩ := ints_of_trod undE h7
      simp [Rows.laid_ravel_life_follows] at hx
      obtain ⟨⟨rfl, rfl, rfl, rfl, rfl, rfl, rfl, rfl⟩, _⟩ := hx
      rfl
    · cases hd

theorem globAt_laid {W : World} (h : laidMet Tryd.prog [("ravel/life.follows", Rows.laid_ravel_life_follows)] W) : GlobAt W (All W) gl := by
  have hv := cells_of_laid h
  intro g cells hg
  have h0 : g = 0 ∧ cells = [.int .u8 0, .int .u8 132, .int .u8 250, .int .u8 130, .int .u8 130, .int .u8 130, .int .u8 130, .int .u8 0] := by
    cases g with
    | zero => exact ⟨rfl, (Option.some.inj hg).symm⟩
    | succ g => cases hg
  obtain ⟨rfl, rfl⟩ := h0
  have hcell := World.var?_cell glob hv
  refine ⟨?_, cells8.toList, fun j v hj => ?_, ?_⟩
  · have h1 := hcell 0
    unfold World.cell? at h1
    unfold All
    by_cases hb : 0 < W.heap.size
    · exact hb
    · rw [Array.getElem?_eq_none (by simpa using hb)] at h1
      cases h1
  · rw [Nat.zero_add, hcell j]
    simpa using hj
  · repeat (first | exact .nil | refine .cons (.int _ _) ?_)

/-- A world in which the variable is laid. -/
noncomputable def laidWorld (os : Os) : World :=
  { World.holding Tryd.prog os ⟨#[], #[], []⟩ with heap := (World.holding Tryd.prog os ⟨#[], #[], []⟩).heap.modify 0 fun
      | .cells _ t frozen => .cells cells8 t frozen
      | o => o }

theorem laidWorld_row (os : Os) (args : Array Value) : ((laidWorld os).forCall (fun _ _ => 0) ⟨#[], args, []⟩).memory.heap[0]? = some (.cells cells8 87 (0, 0)) := by kernel_rfl

theorem laidWorld_met (os : Os) (args : Array Value) : laidMet Tryd.prog [("ravel/life.follows", Rows.laid_ravel_life_follows)] ((laidWorld os).forCall (fun _ _ => 0) ⟨#[], args, []⟩).memory :=
  ⟨_, ⟨0, 87, cells8, 8, [], [], by kernel_rfl, by kernel_rfl, by kernel_rfl, by kernel_rfl, rfl, rfl⟩, by decide, fun b off h => by
    have h' : MemPlace.cell b off ∈ [MemPlace.cell 0 0, .cell 0 1, .cell 0 2, .cell 0 3, .cell 0 4, .cell 0 5, .cell 0 6, .cell 0 7] := h
    have hb : b = 0 := by
      simp at h'
      omega
    subst hb
    refine ⟨⟨_, _, laidWorld_row os args⟩, fun u v hc => ?_⟩
    simp only [World.cell?, laidWorld_row os args] at hc
    simp at h'
    rcases h' with rfl | rfl | rfl | rfl | rfl | rfl | rfl | rfl <;> simp [cells8] at hc⟩


end Go.Proofs.YtpkegoikocfchaaDoor
