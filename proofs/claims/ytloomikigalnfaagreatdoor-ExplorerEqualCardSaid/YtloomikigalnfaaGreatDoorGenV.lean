/-
  The functions that the law reaches, and what they name: the row's words about them.
  The row's closed facts about the program, all of them.
  ExplorerEqual answers true for every two outcomes and leaves them as they were, in every world in which the listed variables read as the row says; these readings are tied to the program's text.
  ExplorerEqual: the tied card. It answers true for every two outcomes, which read behind the call as they read before; what the listed variables read as is tied to the program's text.
-/
import Derived.Test.YtloomikigalnfaaGreatDoorGenN0
import Derived.Test.YtloomikigalnfaaGreatDoorGenNC
import Derived.Test.YtloomikigalnfaaGreatDoorGenR1
import Derived.Test.YtloomikigalnfaaGreatDoorGenR2
import Derived.Test.YtloomikigalnfaaGreatDoorGenR5
import Derived.Test.YtloomikigalnfaaGreatDoorExStart
import Derived.Test.YtloomikigalnfaaGreatDoorGenU3
import Derived.Test.YtloomikigalnfaaGreatDoorCards
import Derived.Test.YtloomikigalnfaaGreatDoorTieK
import Derived.Test.YtloomikigalnfaaGreatDoorTieN
import Derived.Test.YtloomikigalnfaaGreatDoorTieD
import Derived.SevenTiedAt
import Derived.Test.YtloomikigalnfaaGreatDoorGenU1
import Derived.Test.YtloomikigalnfaaGreatDoorGenU4
set_option linter.unusedVariables false
set_option linter.unusedSimpArgs false
set_option linter.unusedSectionVars false

section
namespace Go.Proofs.YtloomikigalnfaaGreatDoor
open Go

theorem funcs_size : Tryz.prog.funcs.size = 697 := by kernel_rfl
theorem ltabs_all : (List.range' 0 697).map leads = ltabs := by
  have h : List.range' 0 697 = List.range' 0 349 ++ List.range' 349 348 := by
    rw [List.range'_append_1]
  rw [h, List.map_append, ltab_eq0, ltab_eq1]
  rfl
theorem ltabs_len : ltabs.length = 697 := by rw [← ltabs_all]; simp
theorem leads_eq (f : Nat) : leads f = ltabs.getD f [] := by
  rw [List.getD_eq_getElem?_getD]
  by_cases hf : f < 697
  · rw [← ltabs_all]
    simp [hf]
  · have h1 : ltabs[f]? = none := by
      rw [List.getElem?_eq_none_iff, ltabs_len]
      omega
    have h2 : Tryz.prog.funcs[f]? = none := by
      rw [Array.getElem?_eq_none_iff, funcs_size]
      omega
    rw [h1]
    unfold leads
    rw [h2]
    rfl
theorem via_eq : ∀ (n : Nat) (todo seen : List Nat), Tryz.prog.closureVia n todo seen = viaT (fun f => ltabs.getD f []) n todo seen
  | 0, _, _ => by unfold Program.closureVia viaT; rfl
  | n + 1, [], _ => by unfold Program.closureVia viaT; rfl
  | n + 1, f :: todo, seen => by
    unfold Program.closureVia viaT
    have h : (Tryz.prog.funcs[f]?).elim [] Tryz.prog.leadsTo = ltabs.getD f [] := leads_eq f
    rw [h, via_eq n, via_eq n]
theorem lens_eq : (Tryz.prog.funcs.toList.map fun g => (Tryz.prog.leadsTo g).length + 1) = ltabs.map fun x => x.length + 1 := by
  apply List.ext_getElem?
  intro i
  simp only [List.getElem?_map, Array.getElem?_toList]
  by_cases hi : i < 697
  · have h1 : i < Tryz.prog.funcs.size := by rw [funcs_size]; exact hi
    have h2 : i < ltabs.length := by rw [ltabs_len]; exact hi
    have h3 := leads_eq i
    rw [List.getD_eq_getElem?_getD, List.getElem?_eq_getElem h2] at h3
    unfold leads at h3
    rw [Array.getElem?_eq_getElem h1] at h3
    rw [Array.getElem?_eq_getElem h1, List.getElem?_eq_getElem h2]
    simp only [Option.elim_some, Option.getD_some] at h3
    simp only [Option.map_some, h3]
  · rw [Array.getElem?_eq_none_iff.2 (by rw [funcs_size]; omega), List.getElem?_eq_none_iff.2 (by rw [ltabs_len]; omega)]
    rfl
theorem closure_eq : Tryz.prog.closure 3 = cl0 ++ cl1 := by
  unfold Program.closure
  rw [lens_eq, fuel_run, via_eq]
  exact via_run

theorem plain_all (g : Nat) (hg : g ∈ cl0 ++ cl1) : plainFn g = true := by
  rcases List.mem_append.1 hg with h | h
  · exact List.all_eq_true.1 plain0 g h
  · exact List.all_eq_true.1 plain1 g h
theorem plain_some {g : Nat} (hg : plainFn g = true) {fn : Func} (hf : Tryz.prog.funcs[g]? = some fn) : (fn.ours || fn.body.isNone || fn.name == "runtime.NumGoroutine") = false := by
  unfold plainFn at hg
  rw [hf] at hg
  simpa using hg

theorem limb_inPlace : Tryz.prog.inPlace 3 = [] := by
  unfold Program.inPlace
  rw [closure_eq, List.filterMap_eq_nil_iff]
  intro g hg
  cases hf : Tryz.prog.funcs[g]? with
  | none => rfl
  | some fn => simp only [Option.bind_some, plain_some (plain_all g hg) hf, Bool.false_eq_true, if_false]
theorem eleven : (cl0 ++ cl1).contains 11 = true := by kernel_rfl
theorem unf11 : ((Tryz.prog.funcs[11]?).any fun fn => match fn.body with | some c => c.unfollowed | none => entryCalls fn) = true := by kernel_rfl
theorem limb_unfollowed : Tryz.prog.unfollowed 3 = true := by
  unfold Program.unfollowed
  rw [closure_eq, List.any_eq_true]
  exact ⟨11, by simpa using eleven, unf11⟩
theorem limb_recurses : Tryz.prog.recurses 3 = true := by
  unfold Program.recurses
  rw [limb_unfollowed]
  rfl
theorem names_run : ((gtab0 ++ gtab1).flatten.eraseDups.filterMap fun g => (Tryz.prog.globals[g]?).map (·.name)).eraseDups = ["strings.asciiSpace", "unicode.White_Space", "trickle/ast.statements", "math/bits.deBruijn64tab", "internal/strconv.uint64pow10", "math/bits.deBruijn32tab", "strconv.ErrSyntax", "strconv.ErrRange", "trickle/cpu.binary"] := by kernel_rfl
theorem limb_named : Tryz.prog.varsNamed 3 = ["strings.asciiSpace", "unicode.White_Space", "trickle/ast.statements", "math/bits.deBruijn64tab", "internal/strconv.uint64pow10", "math/bits.deBruijn32tab", "strconv.ErrSyntax", "strconv.ErrRange", "trickle/cpu.binary"] := by
  unfold Program.varsNamed
  rw [closure_eq]
  have h1 : ((cl0 ++ cl1).flatMap fun g => ((Tryz.prog.funcs[g]?).bind (·.body)).elim [] Code.globalsNamed) = (gtab0 ++ gtab1).flatten := by
    rw [← gtab_eq0, ← gtab_eq1, ← List.map_append]
    rfl
  have h2 : ((cl0 ++ cl1).filterMap fun g => (Tryz.prog.funcs[g]?).bind fun fn => if fn.body.isNone then entryReads.lookup fn.name else none) = [] := by
    rw [List.filterMap_eq_nil_iff]
    intro g hg
    cases hf : Tryz.prog.funcs[g]? with
    | none => rfl
    | some fn =>
      have h := plain_some (plain_all g hg) hf
      simp only [Bool.or_eq_false_iff] at h
      simp only [Option.bind_some, h.1.2, Bool.false_eq_true, if_false]
  rw [h1, h2, List.append_nil]
  exact names_run
end Go.Proofs.YtloomikigalnfaaGreatDoor
end

section
namespace Go.Proofs.YtloomikigalnfaaGreatDoor
open Go
theorem f_laidOut : laidOutB Tryz.prog = true := by
  unfold laidOutB
  rw [f_rows, f_globals, f_params]
  rfl
theorem f_inPlace : (Rows.explorerEqualRow.inPlace == Tryz.prog.inPlace 3) = true := by rw [limb_inPlace]; rfl
theorem f_unfollowed : (Rows.explorerEqualRow.unfollowed == Tryz.prog.unfollowed 3) = true := by rw [limb_unfollowed]; rfl
theorem f_recurses : (Rows.explorerEqualRow.recurses == Tryz.prog.recurses 3) = true := by rw [limb_recurses]; rfl
theorem f_named : (Rows.explorerEqualRow.named == Tryz.prog.varsNamed 3) = true := by rw [limb_named]; kernel_rfl
set_option maxRecDepth 100000 in
theorem fact_joined : joinedFacts Tryz.prog 3 Tryz.f3 Rows.explorerEqualSpec Rows.explorerEqualRow = true := by
  unfold joinedFacts
  rw [f_wf, f_laidOut, f_maps, f_read, f_tie, f_stops, f_stops2, f_knobs, f_knobs2, f_inPlace, f_unfollowed, f_recurses, f_named, f_mapsRec, f_ifaces, f_mapsOut, f_loops, f_wide, f_vars, f_res, f_ifacesOut, f_loopsOut, f_keys, f_short, f_heard, f_enter, f_lifted, f_make, f_pinned, f_veiled, f_veils]
  kernel_rfl
end Go.Proofs.YtloomikigalnfaaGreatDoor
end

section
namespace Go.Proofs.YtloomikigalnfaaGreatDoor
open Go

set_option maxRecDepth 100000 in
theorem explorerEqual_holds : Rows.ExplorerEqualSaid :=
  OpenClaim.holds_of_wide 3 Tryz.f3 rfl rfl rfl rfl rfl rfl rfl ⟨rfl, rfl, rfl, rfl, rfl⟩ rfl rfl rfl rfl rfl fact_named Tryz.func3 fact_joined fact_instance fact_wrapper
    (fun os started H enc _ => lifted os started H enc)

theorem tie : Tryz.prog.laidByTextLater laidL laidK true :=
  Program.laidByTextLater_of_run 696 400 8 tie_hw tie_hwn tie_hroot tie_hk tie_hg tie_hn tie_hd tie_h1 tie_h2 laid_plain
#print axioms explorerEqual_holds
#print axioms tie
end Go.Proofs.YtloomikigalnfaaGreatDoor
end

section
namespace Go.Proofs.YtloomikigalnfaaGreatDoor
open Go

theorem goes_at {g : Nat} {fn : Func} (hf : Tryz.prog.funcs[g]? = some fn) : fn.goes = false := by
  have hg : g < 697 := by
    rw [← funcs_size]
    exact (Array.getElem?_eq_some_iff.1 hf).1
  have h : ((Tryz.prog.funcs[g]?).any Func.goes) = false := by
    by_cases hl : g < 349
    · exact Bool.eq_false_iff.2 (List.any_eq_false.1 u_go0 g (by simp [List.mem_range'_1]; omega))
    · exact Bool.eq_false_iff.2 (List.any_eq_false.1 u_go1 g (by simp [List.mem_range'_1]; omega))
  rw [hf] at h
  simpa using h
theorem no_goes : Tryz.prog.goes 3 = false := by
  unfold Program.goes
  rw [Bool.or_eq_false_iff]
  constructor
  · rw [List.any_eq_false]
    intro g _
    cases hf : Tryz.prog.funcs[g]? with
    | none => simp
    | some fn => simp [goes_at hf]
  · rw [Bool.and_eq_false_iff]
    refine .inr ?_
    rw [Array.any_eq_false]
    intro i hi
    rw [goes_at (Array.getElem?_eq_getElem hi)]
    simp
theorem u_goes : false = Rows.explorerEqualRow.goesBy Tryz.prog := by
  have h : Tryz.prog.funcNamed Rows.explorerEqualRow.func = some 3 := fact_named
  have h2 : Tryz.prog.goesFrom Rows.explorerEqualRow.func = false := by
    unfold Program.goesFrom
    rw [h]
    rw [Option.any_some]
    exact no_goes
  have h3 : Rows.explorerEqualRow.start = .entering := rfl
  unfold OpenClaim.goesBy Program.goesAt
  rw [h2, h3]
  rfl

/-- THE ROW's TIE, out of the program's. -/
theorem explorerEqual_row_tied : Rows.explorerEqualRow.laidByTextAt .later Tryz.pinned laidK true := OpenClaim.laidByTextAt_later rfl rfl tie noOwnUnsafe

/-- The tied card. -/
theorem explorerEqual_card : Rows.ExplorerEqualCardSaid :=
  Claim7.holds_tied_plain_at .later [] [.data, .listed, .data, .data, .data, .data, .sentinel, .sentinel, .data] true (true, "8b4c2653ce586879b8060e35309de48a2b924e1d75e2c36ac2881af465f56a4f") true
    explorerEqual_holds (fun _ h => by cases h) u_wf (fun _ h => by cases h) explorerEqual_row_tied rfl ⟨rfl, rfl⟩ u_main rfl
    (fun f fn hf hfn => by
      obtain rfl : f = 3 := Option.some.inj (fact_named.symm.trans hf) |>.symm
      obtain rfl : fn = Tryz.f3 := (Option.some.inj (Tryz.func3.symm.trans hfn)).symm
      exact ⟨u_looks, fun j t ht => by
        rw [Tryz.params3] at ht
        have hm : t = 28 := by
          rcases j with _ | _ | j
          · simpa using ht.symm
          · simpa using ht.symm
          · simp at ht
        subst hm
        exact u_stand⟩)
    u_goes
#print axioms explorerEqual_card
end Go.Proofs.YtloomikigalnfaaGreatDoor
end
