/-
  The examples' run: from every world in which the variables hold what the row says of them, the examples answer true and leave every block as it was.
  An input at which the row's condition is met: two empty outcomes, in the world that the program's own laying leaves.
  The blocks behind the variables are as the program's start lays them, in the world of the input.
  ExplorerEqual answers true for every two outcomes, and leaves them as they were.
-/
import Derived.Test.YtloomikigalnfaaGreatDoorExDefs
import Derived.Test.YtloomikigalnfaaGreatDoorExMain
import Derived.Test.YtloomikigalnfaaGreatDoorExKa
import Derived.Test.YtloomikigalnfaaGreatDoorExKb
import Derived.Test.YtloomikigalnfaaGreatDoorRows
import Derived.KernelRfl
import Derived.Test.YtloomikigalnfaaGreatDoorTieK
import Derived.Test.YtloomikigalnfaaGreatDoorTieH
import Derived.Test.YtloomikigalnfaaGreatDoorTieI
import Derived.ProofKit
import Derived.LaidMore
import Derived.OpenShut
import Derived.Stop.Joined
import Derived.Test.YtloomikigalnfaaGreatDoorGenA
set_option linter.unusedVariables false
set_option linter.unusedSimpArgs false
set_option linter.unusedSectionVars false

section
namespace Go.Ev
open Go Go.Proofs Go.Proofs.YtloomikigalnfaaGreatDoor


/-- The cells that a variable holds. -/
noncomputable def L0 : List Value := (flatD Tryz.prog 4 562 Rows.laid_math_bits_deBruijn64tab).getD []
noncomputable def L1 : List Value := (flatD Tryz.prog 4 665 Rows.laid_trickle_ast_statements).getD []
noncomputable def L5 : List Value := (flatD Tryz.prog 4 728 Rows.laid_strings_asciiSpace).getD []
noncomputable def L8 : List Value := (flatD Tryz.prog 4 788 Rows.laid_trickle_cpu_binary).getD []
/-- The evaluator's cells of a block. -/
noncomputable def cellsG (G : Option AObj) : List (Option AV) := orec [] (fun o => orec [] (fun l => l) (onCells o fun _ n z m => some ((List.range n).map (cellAt n z m)))) G
noncomputable def sizeG (G : Option AObj) : Nat := orec 0 (fun o => orec 0 (fun l => l) (onCells o fun _ n _ _ => some (Nat.succ n))) G
/-- A variable's cells are the evaluator's. -/
def okL (L : List Value) (G : Option AObj) (n : Nat) : Prop := L.length = n ∧ L.map (ofV 6) = cellsG G ∧ lall (fun x => orec false isCell x) (cellsG G) = true ∧ sizeG G = Nat.succ n

theorem F0 : flatD Tryz.prog 4 562 Rows.laid_math_bits_deBruijn64tab = some L0 := by kernel_rfl
theorem F1 : flatD Tryz.prog 4 665 Rows.laid_trickle_ast_statements = some L1 := by kernel_rfl
theorem F5 : flatD Tryz.prog 4 728 Rows.laid_strings_asciiSpace = some L5 := by kernel_rfl
theorem F8 : flatD Tryz.prog 4 788 Rows.laid_trickle_cpu_binary = some L8 := by kernel_rfl
theorem ok0 : okL L0 G0 64 := ⟨by kernel_rfl, by kernel_rfl, by kernel_rfl, by kernel_rfl⟩
theorem ok1 : okL L1 G1 70 := ⟨by kernel_rfl, by kernel_rfl, by kernel_rfl, by kernel_rfl⟩
theorem ok5 : okL L5 G5 256 := ⟨by kernel_rfl, by kernel_rfl, by kernel_rfl, by kernel_rfl⟩
theorem ok8 : okL L8 G8 14 := ⟨by kernel_rfl, by kernel_rfl, by kernel_rfl, by kernel_rfl⟩
theorem G2_eq : G2 = some (.cells 1 1 [.iface 757 (.ptr (some (64, 0)))] (noCells 1)) := by kernel_rfl

/-! ### The variables, in a world -/
structure VarsOK (w : World) : Prop where
  v0 : ∃ cs t, w.heap[0]? = some (.cells cs t (0, 0)) ∧ cs.toList = L0
  v1 : ∃ cs t, w.heap[1]? = some (.cells cs t (0, 0)) ∧ cs.toList = L1
  v2 : ∃ cs t a, w.heap[2]? = some (.cells cs t (0, 0)) ∧ cs.toList = [.iface 757 (.pointer (some a))] ∧ a.spot = none
  v5 : ∃ cs t, w.heap[5]? = some (.cells cs t (0, 0)) ∧ cs.toList = L5
  v8 : ∃ cs t, w.heap[8]? = some (.cells cs t (0, 0)) ∧ cs.toList = L8
/-- What is kept below the variables' number keeps them. -/
theorem VarsOK.of_below {B : Nat} {w w' : World} (h : VarsOK w) (hB : 9 ≤ B) (hb : Go.RowKit.Below B w w') : VarsOK w' := by
  obtain ⟨h0, h1, h2, h5, h8⟩ := h
  exact ⟨by rw [hb.block 0 (by omega)]; exact h0, by rw [hb.block 1 (by omega)]; exact h1, by rw [hb.block 2 (by omega)]; exact h2, by rw [hb.block 5 (by omega)]; exact h5, by rw [hb.block 8 (by omega)]; exact h8⟩

/-! ### The evaluator's heap at the start -/
noncomputable def esz (b : Nat) : Nat := match b with | 0 => 64 | 1 => 70 | 2 => 1 | 5 => 256 | 8 => 14 | _ => 0
noncomputable def φ0 (a : Addr) : Map := fun b => if b < 64 then some ⟨b, 0, esz b⟩ else if b = 64 then some ⟨a.block, a.off, 0⟩ else none

theorem or_of {L : List Value} {G : Option AObj} {n : Nat} (hok : okL L G n) {φ : Map} {w : World} {g : Nat} {cs : Array Value} {t : TypeId} (hc : w.heap[g]? = some (.cells cs t (0, 0))) (hL : cs.toList = L) {o : AObj} (ho : G = some o) {e : Nat} (he : e = n) : OR φ o ⟨g, 0, e⟩ w := by
  obtain ⟨h1, h2, h3, h4⟩ := hok
  subst he
  subst ho
  have hs : cs.size = e := by rw [← h1, ← hL, Array.length_toList]
  cases o with
  | cells sz n z m =>
    obtain rfl : n = e := Nat.succ.inj (show Nat.succ n = Nat.succ e from h4)
    refine ⟨cs, t, (0, 0), hc, hs.symm, by simp [hs], .inl rfl, fun i hi => ?_⟩
    have h2' : L.map (ofV 6) = (List.range n).map (cellAt n z m) := h2
    have h3' : lall (fun x => orec false isCell x) ((List.range n).map (cellAt n z m)) = true := h3
    obtain ⟨y, hy⟩ : ∃ y, L[i]? = some y := ⟨L[i]'(by omega), List.getElem?_eq_getElem (by omega)⟩
    have hi1 : (L.map (ofV 6))[i]? = some (ofV 6 y) := by simp [hy]
    rw [h2'] at hi1
    have hi2 : cellAt n z m i = ofV 6 y := by simpa [hi] using hi1
    have hi3 := lall_eq h3' (cellAt n z m i) (List.mem_map.2 ⟨i, List.mem_range.2 hi, rfl⟩)
    obtain ⟨x, hx, hxc⟩ := orec_true hi3
    exact ⟨x, y, hx, hxc, by rw [Nat.zero_add, ← Array.getElem?_toList, hL]; exact hy, ofV_sound φ 6 y x (hi2.symm.trans hx)⟩
  | map es => cases h4
  | loop st pd fn tm tsz ps asg bd df => cases h4
  | defd => cases h4
  | dead => cases h4

/-! ### The row's condition gives the variables -/
theorem glob0 : Tryz.prog.globalNamed "math/bits.deBruijn64tab" = some 0 := by kernel_rfl
theorem glob1 : Tryz.prog.globalNamed "trickle/ast.statements" = some 1 := by kernel_rfl
theorem glob2 : Tryz.prog.globalNamed "strconv.ErrSyntax" = some 2 := by kernel_rfl
theorem glob5 : Tryz.prog.globalNamed "strings.asciiSpace" = some 5 := by kernel_rfl
theorem glob8 : Tryz.prog.globalNamed "trickle/cpu.binary" = some 8 := by kernel_rfl
theorem gty0 : (Tryz.prog.globals[0]?).map (·.type) = some 562 := by kernel_rfl
theorem gty1 : (Tryz.prog.globals[1]?).map (·.type) = some 665 := by kernel_rfl
theorem gty2 : (Tryz.prog.globals[2]?).map (·.type) = some 338 := by kernel_rfl
theorem gty5 : (Tryz.prog.globals[5]?).map (·.type) = some 728 := by kernel_rfl
theorem gty8 : (Tryz.prog.globals[8]?).map (·.type) = some 788 := by kernel_rfl
set_option maxRecDepth 100000 in
theorem errRow : ∀ u, Tryz.prog.typeName? 3 u = some "*errors.errorString" → u = 757 :=
  ptr_row (nm := "errors.errorString") (by decide) (by kernel_rfl) (by decide)

theorem cells759 : Tryz.prog.cellsOf 759 = 1 := by kernel_rfl
theorem cells9 : Tryz.prog.cellsOf 9 = 1 := by kernel_rfl
set_option maxRecDepth 100000 in
theorem err_of_trod {w : World} {cs : Array Value} {fuel p} (h1 : DataW.trod (fun _ => ()) Tryz.prog w 0 (fun _ => true) false fuel 338 cs.toList = some (Rows.laid_strconv_ErrSyntax, p)) (h3 : ∀ u v, cs.toList = [.iface u v] → Value.okWide Tryz.prog w .any 0 u v) : ∃ a s, cs.toList = [.iface 757 (.pointer (some a))] ∧ w.cell? a = some (.string s) := by
  have h1' : DataW.trod (fun _ => ()) Tryz.prog w 0 (fun _ => true) false fuel 338 cs.toList = some ((.iface "*errors.errorString" (.ptr (.agg [.lit (.string [105, 110, 118, 97, 108, 105, 100, 32, 115, 121, 110, 116, 97, 120])]))), p) := h1
  clear h1
  obtain ⟨a, s, e1, e2, _⟩ := errorString_of_trod Tryz.underlying338 errRow Tryz.underlying757 Tryz.underlying759 rfl rfl Tryz.underlying9 cells759 cells9 h1' h3
  exact ⟨a, s, e1, e2⟩
theorem ne_nil_of_len {α : Type} {L : List α} {n : Nat} (h : L.length = n) (hn : n ≠ 0) : L ≠ [] := fun e => hn (by rw [← h, e]; rfl)

set_option maxRecDepth 100000 in
theorem varsOK_of_laid {w : World} (h : laidMet Tryz.prog laidL w) : VarsOK w := by
  refine ⟨laid_flat h (n := "math/bits.deBruijn64tab") (by simp [laidL]) glob0 gty0 F0 (ne_nil_of_len ok0.1 (by decide)),
    laid_flat h (n := "trickle/ast.statements") (by simp [laidL]) glob1 gty1 F1 (ne_nil_of_len ok1.1 (by decide)), ?_,
    laid_flat h (n := "strings.asciiSpace") (by simp [laidL]) glob5 gty5 F5 (ne_nil_of_len ok5.1 (by decide)),
    laid_flat h (n := "trickle/cpu.binary") (by simp [laidL]) glob8 gty8 F8 (ne_nil_of_len ok8.1 (by decide))⟩
  obtain ⟨cs, t', fuel, p, h1, h2, h3⟩ := laid_cells h (n := "strconv.ErrSyntax") (d := Rows.laid_strconv_ErrSyntax) (by simp [laidL]) glob2 gty2
  obtain ⟨a, s, e1, e2⟩ := err_of_trod h1 h3
  refine ⟨cs, t', a, h2 (by rw [e1]; simp), e1, ?_⟩
  unfold World.cell? at e2
  split at e2
  · split at e2
    · cases e2
    · rename_i hs
      simpa using hs
  · cases e2

/-! ### The run -/
theorem mix0 : Tryz.prog.follows .mixedOrders = true := by kernel_rfl
theorem envOK0 : EnvOK Tryz.prog E0 where
  tt := fun t i h => by unfold E0 at h; dsimp only at h; exact h
  fns := fun f g h => by unfold E0 at h; dsimp only at h; exact h
  mix := mix0
theorem ks_ok : ∀ k, k ∈ Ks → ∃ ih, ReqOK Tryz.prog ih ∧ k.OK ih := by
  have e := eval_sound envOK0 20000 200
  have e92 : ReqOK Tryz.prog (callK E0 20000 [K188] 200) := callK_sound envOK0 20000 [K188] (fun k hk => by
    rw [List.mem_singleton] at hk; subst hk; exact ⟨_, e, k188, kf188⟩) 200
  have e23 : ReqOK Tryz.prog (callK E0 20000 [K92] 200) := callK_sound envOK0 20000 [K92] (fun k hk => by
    rw [List.mem_singleton] at hk; subst hk; exact ⟨_, e92, k92, kf92⟩) 200
  intro k hk
  unfold Ks at hk
  simp only [List.mem_cons, List.not_mem_nil, or_false] at hk
  rcases hk with rfl | rfl | rfl | rfl | rfl | rfl
  · exact ⟨_, e, k28, kf28⟩
  · exact ⟨_, e, k20, kf20⟩
  · exact ⟨_, e, k22, kf22⟩
  · exact ⟨_, e23, k23, kf23⟩
  · exact ⟨_, e, k30, kf30⟩
  · exact ⟨_, e, k31, kf31⟩
theorem vTrue_eq {v : AV} (h : vTrue v = true) : v = .bool true := by
  cases v with
  | bool b => cases b with
    | true => rfl
    | false => cases h
  | _ => cases h

theorem start_rel {w : World} (hv : VarsOK w) {H : AHeap} (hH : heapOf 65 Gl = some H) : ∃ a, Rel (φ0 a) H.at w ∧ Dom (φ0 a) H ∧ ∀ b, live H.at b → b < 9 := by
  obtain ⟨⟨c0, t0, a0, b0⟩, ⟨c1, t1, a1, b1⟩, ⟨c2, t2, a, a2, b2, hs⟩, ⟨c5, t5, a5, b5⟩, ⟨c8, t8, a8, b8⟩⟩ := hv
  obtain ⟨hnx, hat⟩ := heapOf_at hH
  have cases5 : ∀ b o, H.at b = some o → (b = 0 ∧ G0 = some o) ∨ (b = 1 ∧ G1 = some o) ∨ (b = 2 ∧ G2 = some o) ∨ (b = 5 ∧ G5 = some o) ∨ (b = 8 ∧ G8 = some o) := by
    intro b o ho
    obtain ⟨p, hp, rfl, h2⟩ := hat b o ho
    unfold Gl at hp
    simp only [List.mem_cons, List.not_mem_nil, or_false] at hp
    rcases hp with rfl | rfl | rfl | rfl | rfl
    · exact .inl ⟨rfl, h2⟩
    · exact .inr (.inl ⟨rfl, h2⟩)
    · exact .inr (.inr (.inl ⟨rfl, h2⟩))
    · exact .inr (.inr (.inr (.inl ⟨rfl, h2⟩)))
    · exact .inr (.inr (.inr (.inr ⟨rfl, h2⟩)))
  have lt9 : ∀ b o, H.at b = some o → b < 9 := by
    intro b o ho
    rcases cases5 b o ho with h | h | h | h | h <;> omega
  have φlt : ∀ b, b < 64 → φ0 a b = some ⟨b, 0, esz b⟩ := fun b hb => if_pos hb
  refine ⟨a, ⟨fun g hg => ⟨esz g, φlt g hg⟩, ?_, ?_⟩, ⟨?_, ?_⟩, fun b ⟨o, ho, _⟩ => lt9 b o ho⟩
  · intro b l o hl ho
    have hb := lt9 b o ho
    obtain rfl : l = ⟨b, 0, esz b⟩ := Option.some.inj (hl.symm.trans (φlt b (by omega)))
    rcases cases5 b o ho with ⟨rfl, h⟩ | ⟨rfl, h⟩ | ⟨rfl, h⟩ | ⟨rfl, h⟩ | ⟨rfl, h⟩
    · exact or_of ok0 a0 b0 h rfl
    · exact or_of ok1 a1 b1 h rfl
    · obtain rfl : o = .cells 1 1 [.iface 757 (.ptr (some (64, 0)))] (noCells 1) := Option.some.inj (h.symm.trans G2_eq)
      have hsz : c2.size = 1 := by rw [← Array.length_toList, b2]; rfl
      refine ⟨c2, t2, (0, 0), a2, hsz.symm, by simp [hsz], .inl rfl, fun i hi => ?_⟩
      obtain rfl : i = 0 := by omega
      refine ⟨.iface 757 (.ptr (some (64, 0))), .iface 757 (.pointer (some a)), by rw [cellAt_noCells]; rfl, rfl, by rw [Nat.zero_add, ← Array.getElem?_toList, b2]; rfl, ?_⟩
      obtain ⟨ab, ao, asp⟩ := a
      cases hs
      exact .iface 757 (.ptr (l := ⟨ab, ao, 0⟩) rfl)
    · exact or_of ok5 a5 b5 h rfl
    · exact or_of ok8 a8 b8 h rfl
  · intro b b' l l' hl hl' ⟨o, ho, _⟩ ⟨o', ho', _⟩ he
    have hb := lt9 b o ho
    have hb' := lt9 b' o' ho'
    obtain rfl : l = ⟨b, 0, esz b⟩ := Option.some.inj (hl.symm.trans (φlt b (by omega)))
    obtain rfl : l' = ⟨b', 0, esz b'⟩ := Option.some.inj (hl'.symm.trans (φlt b' (by omega)))
    exact he
  · intro b l hl
    rw [hnx]
    unfold φ0 at hl
    split at hl
    · omega
    · split at hl
      · omega
      · cases hl
  · intro b hb
    rw [hnx] at hb
    cases ho : H.at b with
    | none => rfl
    | some o => have := lt9 b o ho; omega

/-- The examples answer true, and leave every block as it was. -/
theorem examples_calls {w : World} (hv : VarsOK w) : Calls Tryz.prog 4 #[] w fun e w' => e = .returned (.bool true) ∧ Go.RowKit.Below w.heap.size w w' := by
  obtain ⟨H, hH, h⟩ := orec_true exAll_true
  obtain ⟨r, hr, ht⟩ := orec_true h
  obtain ⟨a, rel, dom, l9⟩ := start_rel hv hH
  obtain ⟨φ', v', w', hvr, st, _, hc⟩ := (callK_sound envOK0 20000 Ks ks_ok 200).call 4 [] H r hr .normal (φ0 a) w [] (.inl rfl) rel dom .nil
  rw [vTrue_eq ht] at hvr
  cases hvr
  intro cs
  obtain ⟨fr, hs, hfn, hm, hd, hk, fn, hfn', hres⟩ := hc cs
  refine ⟨.returned (.bool true), w', fr, ⟨rfl, ?_⟩, hs, hfn, hm, hd, hk, fn, by rw [hfn]; exact hfn', hres⟩
  refine ⟨st.ext.os, st.ext.tape, st.ext.out, st.ext.sz, fun k hk => ?_⟩
  by_cases hl : ∃ b l, φ0 a b = some l ∧ live H.at b ∧ l.b = k
  · obtain ⟨b, l, h1, h2, rfl⟩ := hl
    exact st.ext.keep b l (Nat.lt_of_lt_of_le (l9 b h2) (by decide)) h1 h2
  · exact st.ext.conc k hk fun b l h1 h2 h3 => hl ⟨b, l, h1, h2, h3⟩
#print axioms examples_calls
end Go.Ev
end

section
namespace Go.Proofs.YtloomikigalnfaaGreatDoor
open Go

/-- The world that the run that lays the variables leaves. -/
noncomputable def door0 (os : Os) : World := { World.holding Tryz.prog os ⟨#[], #[], []⟩ with heap := (varsWorld Tryz.prog 400 696 os (fun _ _ => 0)).heap }
/-- Two empty outcomes. -/
def wargs : Array Value := #[.agg #[.slice none 0 0, .slice none 0 0, .slice none 0 0, .slice none 0 0], .agg #[.slice none 0 0, .slice none 0 0, .slice none 0 0, .slice none 0 0]]
/-- The world of the call. -/
noncomputable def doorW (os : Os) : World := (door0 os).forCall (fun _ _ => 0) ⟨#[], wargs, []⟩

theorem door_heap (os : Os) : (varsWorld Tryz.prog 400 696 os (fun _ _ => 0)).memory.heap = (doorW os).memory.heap := by
  simp [doorW, door0, World.forCall, World.memory, Input.heap]
theorem door_met (os : Os) : laidMetH Tryz.prog laidL (doorW os).memory := by
  rw [MakeChecks.laidMetH_plain _ _ _ (by kernel_rfl)]
  exact laidMet.of_heap (w := (varsWorld Tryz.prog 400 696 os (fun _ _ => 0)).memory) (door_heap os) (laidMet_of_run' 8 (tie_h1 os _) (tie_h2 os _))
theorem w_ref1 (os : Os) : (doorW os).variablesRefB Tryz.prog = true := by kernel_rfl
theorem w_ok (os : Os) : Input.okWideB Tryz.prog (doorW os) 3 ⟨#[], wargs, []⟩ = true := by kernel_rfl
theorem w_pre (os : Os) {H : Type} (enc : TypeId × Value → H) : Rows.explorerEqualSpec.preB enc Tryz.prog Tryz.f3 [] false (doorW os).memory wargs 8 = true := by kernel_rfl
theorem w_sz (os : Os) {H : Type} (enc : TypeId × Value → H) : Rows.explorerEqualSpec.sizedB enc Tryz.prog Tryz.f3 false (doorW os).memory wargs 8 = true := by kernel_rfl
end Go.Proofs.YtloomikigalnfaaGreatDoor
end

section
namespace Go.Proofs.YtloomikigalnfaaGreatDoor
open Go
theorem w_ref2 (os : Os) : ((doorW os).heap.toList.drop Tryz.prog.globals.size).take ((begin Tryz.prog (fun _ _ => 0) default).world.heap.size - Tryz.prog.globals.size) =
      (begin Tryz.prog (fun _ _ => 0) default).world.heap.toList.drop Tryz.prog.globals.size := by kernel_rfl
end Go.Proofs.YtloomikigalnfaaGreatDoor
end

section
namespace Go.Proofs.YtloomikigalnfaaGreatDoor
open Go Go.ChangeShapes Go.WideShapes Go.RowKit
open Go.Proofs.YtloomikigalnfaaGreatDoor.PAll Go.Proofs.YtloomikigalnfaaGreatDoorW.PrintWords

theorem own : ownKnob Tryz.prog.godebug = none := by kernel_rfl
theorem noInit : Tryz.prog.inits.idxOf? 3 = none := by kernel_rfl
theorem laid_plain : (laidL.all fun x => x.2.handleName?.isNone) = true := by kernel_rfl
theorem result4 : Tryz.f3.resultTypes = #[4] := by kernel_rfl
theorem noVars : Rows.explorerEqualSpec.vars = [] := rfl

/-- Behind a call that leaves every block as it was, nothing of the old has turned. -/
theorem kept_of_below {w w' : World} (h : Below w.heap.size w w') (may : MemPlace → Prop) : w.keptBut w' may := by
  refine ⟨h.os, h.output, fun i hi => ?_⟩
  rw [h.block i hi]
  cases hx : w.heap[i]? with
  | none => rfl
  | some o => cases o <;> simp
set_option maxRecDepth 100000 in
/-- The law, at two outcomes. -/
theorem law_calls {H : Type} {enc : TypeId × Value → H} {base : Nat} {sp : Nat → Bool} {held : Bool} {r : Reach} {b0 b1 : Nat} {w : World} {v0 v1 : Value} {d0 d1 : DataW H} {p0 p1 : List MemPlace} (hv : Ev.VarsOK w) (hs : 9 ≤ w.heap.size)
    (k0 : Value.okWide Tryz.prog w r b0 28 v0) (k1 : Value.okWide Tryz.prog w r b1 28 v1) (h0 : DataW.Trod enc Tryz.prog w base sp held 28 v0 d0 p0) (h1 : DataW.Trod enc Tryz.prog w base sp held 28 v1 d1 p1) :
    Calls Tryz.prog 3 #[v0, v1] w fun e w' => e = .returned (.bool true) ∧ Below w.heap.size w w' := by
  obtain ⟨A0, c0, l0, A1, c1, l1, A2, c2, l2, A3, c3, l3, rfl, ⟨C0, n0⟩, ⟨C1, n1⟩, ⟨C2, n2⟩, ⟨C3, n3⟩⟩ := open28 k0 h0
  obtain ⟨B0, e0, m0, B1, e1, m1, B2, e2, m2, B3, e3, m3, rfl, ⟨D0, o0⟩, ⟨D1, o1⟩, ⟨D2, o2⟩, ⟨D3, o3⟩⟩ := open28 k1 h1
  have i0 := inner_le C0
  have i1 := inner_le C1
  have z0 : l0.length ≤ 9223372036854775807 := C0.2.1
  have z1 : l1.length ≤ 9223372036854775807 := C1.2.1
  have z2 : l2.length ≤ 9223372036854775807 := C2.2.1
  have z3 : l3.length ≤ 9223372036854775807 := C3.2.1
  obtain ⟨k, hk⟩ : ∃ k : Nat, 9223372036854775807 + 9223372036854775807 < k := ⟨_, Nat.lt_succ_self _⟩
  refine law3 A0 c0 l0 A1 c1 l1 A2 c2 l2 A3 c3 l3 B0 e0 m0 B1 e1 m1 B2 e2 m2 B3 e3 m3 (partsEq l0 l1 l2 l3 m0 m1 m2 m3) w C0 n0 C1 n1 D0 o0 D1 o1 (fun w1 hb => ?_) (fun w1 hb => ?_) (fun w1 hb => ?_) (fun w1 hb => ?_)
  · exact Eq5.calls k A0 c0 l0 A1 c1 l1 A2 c2 l2 A3 c3 l3 B0 e0 m0 B1 e1 m1 B2 e2 m2 B3 e3 m3 _ _ _ _ w1 (Kd.C_below C0 hb) n0 (Kd.C_below C1 hb) n1 (Kd.C_below C2 hb) n2 (Kd.C_below C3 hb) n3 (Kd.C_below D0 hb) o0 (Kd.C_below D1 hb) o1 (Kd.C_below D2 hb) o2 (Kd.C_below D3 hb) o3
      (eqf_f k _ l0 m0 z0 (Nat.le_refl _) i0 (by omega)) (eqf_f k _ l1 m1 z1 (Nat.le_refl _) i1 (by omega)) (apo_f k l2 m2 z2 (by omega)) (sl_f k l3 m3 z3 (by omega))
  · exact trickleref54_Equal.calls k A0 c0 l0 A1 c1 l1 A2 c2 l2 A3 c3 l3 B0 e0 m0 B1 e1 m1 B2 e2 m2 B3 e3 m3 _ w1 (Kd.C_below C0 hb) n0 (Kd.C_below C1 hb) n1 (Kd.C_below C2 hb) n2 (Kd.C_below C3 hb) n3 (Kd.C_below D0 hb) o0 (Kd.C_below D1 hb) o1 (Kd.C_below D2 hb) o2 (Kd.C_below D3 hb) o3
      (ref_f k _ (Nat.le_refl _) l0 l1 l2 l3 m0 m1 m2 m3 z0 z1 z2 z3 i0 i1 hk)
  · have q := Eq5.calls k A0 c0 l0 A1 c1 l1 A2 c2 l2 A3 c3 l3 A0 c0 l0 A1 c1 l1 A2 c2 l2 A3 c3 l3 _ _ _ _ w1 (Kd.C_below C0 hb) n0 (Kd.C_below C1 hb) n1 (Kd.C_below C2 hb) n2 (Kd.C_below C3 hb) n3 (Kd.C_below C0 hb) n0 (Kd.C_below C1 hb) n1 (Kd.C_below C2 hb) n2 (Kd.C_below C3 hb) n3
      (eqf_f k _ l0 l0 z0 (Nat.le_refl _) i0 (by omega)) (eqf_f k _ l1 l1 z1 (Nat.le_refl _) i1 (by omega)) (apo_f k l2 l2 z2 (by omega)) (sl_f k l3 l3 z3 (by omega))
    have e : (decide (l0 = l0) && (decide (l1 = l1) && (decide (l2 = l2) && decide (l3 = l3)))) = true := partsEq_refl l0 l1 l2 l3
    rw [e] at q
    exact q
  · exact Ev.examples_calls (hv.of_below hs hb)

set_option maxRecDepth 100000 in
theorem lifted (os : Os) (started : os.Started) (H : Type) (enc : TypeId × Value → H) :
    ReturnsInHanded {} Tryz.checked os 3 .any (fun w args => (Rows.explorerEqualSpec.pre enc Tryz.prog Tryz.f3 [] false w args ∧ laidMetH Tryz.prog laidL w) ∧ sizedMet enc Tryz.prog Tryz.f3 (OpenSpec.ofChange Rows.explorerEqualSpec) false w args)
      (Rows.explorerEqualSpec.post enc Tryz.prog Tryz.f3 false true false false) := by
  refine returnsInHanded_of_change_and (C := Tryz.checked) (X := fun w _ => laidMetH Tryz.prog laidL w) (fun _ _ _ hh h => h.of_heap hh) own started noInit Tryz.func3
    (ChangeSpec.witness_shaped (enc := enc) (C := Tryz.checked) (os := os) (X := fun w _ => laidMetH Tryz.prog laidL w) false (door0 os) wargs 8 rfl (World.shaped_of_RefB (w_ref1 os) (w_ref2 os)) (w_ok os) (w_pre os enc) (w_sz os enc) (door_met os)) ?_
  intro W base args ds gs before hval0 hW _ _ hL _
  have hval : ∀ (j : Nat) t v, Tryz.f3.params[j]? = some t → args[j]? = some v → Value.okWide Tryz.prog W .any base t v := hval0
  have hW' := hW
  obtain ⟨p, q, hA0, hV, rfl, hfz, hnd⟩ := hW
  have hA : DataW.TrodAll enc Tryz.prog W 0 (fun _ => true) true Tryz.f3.params.toList args.toList ds p := hA0
  rw [Tryz.params3] at hA hval
  obtain ⟨v0, v1, d0, d1, p0, p1, rfl, rfl, rfl, h0, h1⟩ := trodAll_two hA
  obtain ⟨rfl, rfl⟩ := trodVars_none hV
  have hlaid : laidMet Tryz.prog laidL W := by
    have h : laidMetH Tryz.prog laidL W := hL
    rw [MakeChecks.laidMetH_plain _ _ _ laid_plain] at h
    exact h
  have hvars := Ev.varsOK_of_laid hlaid
  have hs : 9 ≤ W.heap.size := by
    obtain ⟨cs, t, h8, _⟩ := hvars.v8
    have := (Array.getElem?_eq_some_iff.1 h8).1
    omega
  have hlt : ∀ x, x ∈ p0 ++ p1 → x.block < W.heap.size := fun x hx => by simpa using hW'.lt x (by simpa using hx)
  refine (law_calls hvars hs (hval 0 28 v0 rfl rfl) (hval 1 28 v1 rfl rfl) h0 h1).mono fun e W' ⟨he, hb⟩ => ?_
  subst he
  refine ⟨_, rfl, [d0, d1], [], (p0 ++ p1) ++ [], [], p0 ++ p1, [], hW', trodAll_mk1 (shut_bool Tryz.underlying4 _), ?_, rfl, kept_of_below hb _, fun h => by cases h⟩
  rw [Tryz.params3]
  exact trodAll_mk2 (trod28_stays hb h0 fun x hx => decide_eq_true (hlt x (by simp [hx]))) (trod28_stays hb h1 fun x hx => decide_eq_true (hlt x (by simp [hx])))
end Go.Proofs.YtloomikigalnfaaGreatDoor
end
