/-
  What slices.EqualFunc answers over two lists of lists, with slices.Equal as its function.
  What explorer.Equal answers: the two states' lists, the outputs and the messages are equal.
  What convert answers: the same parts in a struct of another type.
  What ExplorerEqual answers, where the functions that it calls answer as they do.
  What the comparing functions answer, in plain terms: whether the lists are equal.
  What an outcome that came in is: four slices, whose rows lie in memory.
  An outcome reads behind the call as it read before, where every old block is as it was.
-/
import Derived.Test.YtloomikigalnfaaGreatDoorPAllx2
import Derived.Test.YtloomikigalnfaaGreatDoorPAllx3
import Derived.OpenShut
import Derived.Deep.Strs
import Derived.DataElems
import Derived.DataShut
import Derived.Test.YtloomikigalnfaaGreatDoorExDefs
set_option linter.unusedVariables false
set_option linter.unusedSimpArgs false
set_option linter.unusedSectionVars false

section
namespace Go.Proofs.YtloomikigalnfaaGreatDoor.PAll
open Go.RowKit Go.Proofs.YtloomikigalnfaaGreatDoorW.PrintWords Go.Proofs.YtloomikigalnfaaGreatDoorW.PrintLast Go.Proofs.YtloomikigalnfaaGreatDoorW.PrintMore
attribute [local go_sem] max2_int min2_int max_two min_two max_three min_three max_four min_four
set_option linter.unusedVariables false
set_option linter.unusedSimpArgs false

/-! ### EqFunc: function 11 -/
def EqFunc.l0 : Nat → List (List Int) → List (List Int) → Int → Int → Option (Bool)
  | 0, _, _, _, _ => none
  | k + 1, x0, x1, x12, x13 => if x13 < x12 then (if 0 ≤ x13 then (if x13 < (x0.length : Int) then (if x13 < (x1.length : Int) then ((slices_Equal_int16_int16.f k (rd_L1 x0 x13) (rd_L1 x1 x13)).bind fun t105 => (if t105 = true then (EqFunc.l0 k x0 x1 x12 (wrap64 (x13 + 1))) else (some false))) else (none)) else (none)) else (none)) else (some true)
def EqFunc.f (k : Nat) (l0 : List (List Int)) (l1 : List (List Int)) : Option (Bool) := if (l0.length : Int) = (l1.length : Int) then (EqFunc.l0 k l0 l1 (l0.length : Int) 0) else (some false)
theorem EqFunc.mono_l : ∀ k, (∀ y0 y1 y2 y3, LeO (EqFunc.l0 k y0 y1 y2 y3) (EqFunc.l0 (k + 1) y0 y1 y2 y3))
  | 0 => fun _ _ _ _ r h => by simp [EqFunc.l0] at h
  | k + 1 => by
    have ih0 := EqFunc.mono_l k
    · intro y0 y1 y2 y3
      unfold EqFunc.l0
      repeat' first
      | (with_reducible exact ih0 _ _ _ _)
      | (with_reducible exact slices_Equal_int16_int16.mono _ _ _)
      | (with_reducible exact LeO.refl _)
      | (with_reducible exact LeO.none _)
      | (with_reducible refine LeO.ite ?_ ?_)
      | (with_reducible refine LeO.bind ?_ (fun _ => ?_))
      | exact ih0 _ _ _ _
      | exact slices_Equal_int16_int16.mono _ _ _
      | exact LeO.none _
      | refine LeO.ite ?_ ?_
      | refine LeO.bind ?_ (fun _ => ?_)
theorem EqFunc.mono : ∀ a0 a1 k, LeO (EqFunc.f k a0 a1) (EqFunc.f (k + 1) a0 a1) := by
  intro a0 a1 k
  have ih0 := EqFunc.mono_l k
  unfold EqFunc.f
  repeat' first
      | (with_reducible exact ih0 _ _ _ _)
      | (with_reducible exact slices_Equal_int16_int16.mono _ _ _)
      | (with_reducible exact LeO.refl _)
      | (with_reducible exact LeO.none _)
      | (with_reducible refine LeO.ite ?_ ?_)
      | (with_reducible refine LeO.bind ?_ (fun _ => ?_))
      | exact ih0 _ _ _ _
      | exact slices_Equal_int16_int16.mono _ _ _
      | exact LeO.none _
      | refine LeO.ite ?_ ?_
      | refine LeO.bind ?_ (fun _ => ?_)
set_option maxHeartbeats 8000000 in
set_option maxRecDepth 100000 in
theorem EqFunc.calls (k : Nat) (A0 : Option Addr) (c0 : Nat) (l0 : List (List Int)) (A1 : Option Addr) (c1 : Nat) (l1 : List (List Int)) (r : Bool) (w : World) (hr0 : Kd.C (Kd.slice 51 (Kd.int .i16)) w A0 l0.length l0) (hc0 : l0.length ≤ c0) (hr1 : Kd.C (Kd.slice 51 (Kd.int .i16)) w A1 l1.length l1) (hc1 : l1.length ≤ c1) (h : EqFunc.f k l0 l1 = some r) :
    Calls Tryz.prog 11 #[.slice A0 l0.length c0, .slice A1 l1.length c1, .func (.func 12) #[] #[]] w fun e w' => e = .returned (.bool r) ∧ Drawn0 w w' := by
  have HR0 := Aside0.mk hr0
  have HC0 := Aside0.mk hc0
  clear hr0 hc0
  have HR1 := Aside0.mk hr1
  have HC1 := Aside0.mk hc1
  clear hr1 hc1
  have H : (if (l0.length : Int) = (l1.length : Int) then (EqFunc.l0 k l0 l1 (l0.length : Int) 0) else (some false)) = some r := h
  clear h
  by_cases c3 : (l0.length : Int) = (l1.length : Int)
  · rw [if_pos c3] at H
    have c3b0 : ((l0.length : Int) == (l1.length : Int)) = true := beq_iff_eq.mpr c3
    have c3b1 : ((l0.length : Int) != (l1.length : Int)) = false := bne_eq_false_iff_eq.mpr c3
    have c3b2 : (l0.length == l1.length) = true := by first | simpa using c3 | (simp at c3 ⊢; omega)
    clear c3
    have H' := Aside0.mk H
    clear H
    go_enter Tryz.func11, Tryz.ntmps11
    go_wp2
    repeat (go_quiet (fail); try go_wp2)
    go_loopg [17] k (fun kq v13 w' => ∃ (x13_1 : Int), v13 = .int .i64 x13_1 ∧ Aside0 (EqFunc.l0 kq l0 l1 (l0.length : Int) x13_1 = some r) ∧ Aside0 (kq ≤ k) ∧ Drawn0 w w')
    case atStart => exact ⟨(0), (by first | rfl | (simp; done) | (simp [*]; done)), H', ⟨Nat.le_refl _⟩, by repeat (first | exact Drawn0.refl _ | apply Drawn0.step)⟩
    case round =>
      clear H'
      try clear c1
      try clear c2
      try clear p2
      try clear c3
      try clear c3b0
      try clear c3b1
      try clear c3b2
      obtain ⟨x13_1, rfl, HA, HK1, ⟨m1, rfl⟩⟩ := hrel
      cases gk with
      | zero => exact absurd HA.out (by simp [EqFunc.l0])
      | succ k1 =>
        have H := HA.out
        clear HA
        simp only [EqFunc.l0] at H
        by_cases c4 : x13_1 < (l0.length : Int)
        · rw [if_pos c4] at H
          have c4b0 : decide (x13_1 < (l0.length : Int)) = true := decide_eq_true c4
          clear c4
          by_cases c5 : 0 ≤ x13_1
          · rw [if_pos c5] at H
            have c5b0 : decide (0 ≤ x13_1) = true := decide_eq_true c5
            clear c5
            by_cases c6 : x13_1 < (l0.length : Int)
            · rw [if_pos c6] at H
              have c6b0 : decide (x13_1 < (l0.length : Int)) = true := decide_eq_true c6
              clear c6
              by_cases c7 : x13_1 < (l1.length : Int)
              · rw [if_pos c7] at H
                have c7b0 : decide (x13_1 < (l1.length : Int)) = true := decide_eq_true c7
                clear c7
                replace H := Option.bind_eq_some_iff.mp H
                obtain ⟨t105, A80, H⟩ := H
                replace H : (if t105 = true then (EqFunc.l0 k1 l0 l1 (l0.length : Int) (wrap64 (x13_1 + 1))) else (some false)) = some r := H
                have A8 := Aside0.mk A80
                clear A80
                by_cases c9 : t105 = true
                · subst c9
                  have H1 : (EqFunc.l0 k1 l0 l1 (l0.length : Int) (wrap64 (x13_1 + 1))) = some r := by rw [if_pos rfl] at H; exact H
                  clear H
                  have H := H1
                  clear H1
                  have H' := Aside0.mk H
                  clear H
                  have p103 : 0 ≤ (x13_1 : Int) := of_decide_eq_true (by first | (with_reducible assumption) | assumption)
                  have q103 : x13_1 < (l0.length : Int) := of_decide_eq_true (by first | (with_reducible assumption) | assumption)
                  obtain ⟨ad103, A103_0, c103_0, e103, hx103_0, hl103_0, hi103_0⟩ := at_L1 HR0.out x13_1 p103 q103
                  cases e103
                  have HR103_0 := Aside0.mk hi103_0
                  have HC103_0 := Aside0.mk hl103_0
                  clear hi103_0 hl103_0
                  replace p103 := eq_true p103
                  replace q103 := eq_true q103
                  have p104 : 0 ≤ (x13_1 : Int) := of_decide_eq_true (by first | (with_reducible assumption) | assumption)
                  have q104 : x13_1 < (l1.length : Int) := of_decide_eq_true (by first | (with_reducible assumption) | assumption)
                  obtain ⟨ad104, A104_0, c104_0, e104, hx104_0, hl104_0, hi104_0⟩ := at_L1 HR1.out x13_1 p104 q104
                  cases e104
                  have HR104_0 := Aside0.mk hi104_0
                  have HC104_0 := Aside0.mk hl104_0
                  clear hi104_0 hl104_0
                  replace p104 := eq_true p104
                  replace q104 := eq_true q104
                  go_wp2_with (first | (go_at_call 12; (with_reducible refine (slices_Equal_int16_int16.calls k1 _ _ (rd_L1 l0 x13_1) _ _ (rd_L1 l1 x13_1) true _ ?side1 ?side2 ?side3 ?side4 A8.out).mono ?_); (case side1 => repeat (first | exact HR103_0.out | (with_reducible refine Kd.C_alloc ?_ _) | (with_reducible refine Kd.C_drewN ?_ _) | (with_reducible refine Kd.C_drew ?_))); (case side2 => exact HC103_0.out); (case side3 => repeat (first | exact HR104_0.out | (with_reducible refine Kd.C_alloc ?_ _) | (with_reducible refine Kd.C_drewN ?_ _) | (with_reducible refine Kd.C_drew ?_))); (case side4 => exact HC104_0.out); rintro e w' ⟨rfl, ⟨nd, rfl⟩⟩; (try first | exact ⟨rfl, _, World.drewN_drewN _ _ _⟩ | exact ⟨rfl, _, Eq.trans (World.drewN_drewN _ _ _) (congrArg (World.drewN _) (Nat.add_assoc _ _ _))⟩)))
                  repeat (go_quiet (first | (go_at_call 12; (with_reducible refine (slices_Equal_int16_int16.calls k1 _ _ (rd_L1 l0 x13_1) _ _ (rd_L1 l1 x13_1) true _ ?side1 ?side2 ?side3 ?side4 A8.out).mono ?_); (case side1 => repeat (first | exact HR103_0.out | (with_reducible refine Kd.C_alloc ?_ _) | (with_reducible refine Kd.C_drewN ?_ _) | (with_reducible refine Kd.C_drew ?_))); (case side2 => exact HC103_0.out); (case side3 => repeat (first | exact HR104_0.out | (with_reducible refine Kd.C_alloc ?_ _) | (with_reducible refine Kd.C_drewN ?_ _) | (with_reducible refine Kd.C_drew ?_))); (case side4 => exact HC104_0.out); rintro e w' ⟨rfl, ⟨nd, rfl⟩⟩; (try first | exact ⟨rfl, _, World.drewN_drewN _ _ _⟩ | exact ⟨rfl, _, Eq.trans (World.drewN_drewN _ _ _) (congrArg (World.drewN _) (Nat.add_assoc _ _ _))⟩))); try go_wp2_with (first | (go_at_call 12; (with_reducible refine (slices_Equal_int16_int16.calls k1 _ _ (rd_L1 l0 x13_1) _ _ (rd_L1 l1 x13_1) true _ ?side1 ?side2 ?side3 ?side4 A8.out).mono ?_); (case side1 => repeat (first | exact HR103_0.out | (with_reducible refine Kd.C_alloc ?_ _) | (with_reducible refine Kd.C_drewN ?_ _) | (with_reducible refine Kd.C_drew ?_))); (case side2 => exact HC103_0.out); (case side3 => repeat (first | exact HR104_0.out | (with_reducible refine Kd.C_alloc ?_ _) | (with_reducible refine Kd.C_drewN ?_ _) | (with_reducible refine Kd.C_drew ?_))); (case side4 => exact HC104_0.out); rintro e w' ⟨rfl, ⟨nd, rfl⟩⟩; (try first | exact ⟨rfl, _, World.drewN_drewN _ _ _⟩ | exact ⟨rfl, _, Eq.trans (World.drewN_drewN _ _ _) (congrArg (World.drewN _) (Nat.add_assoc _ _ _))⟩))))
                  go_roundg k1
                  case measure => have := HK1.out; omega
                  case rel => exact ⟨(wrap64 (x13_1 + 1)), (by first | rfl | (simp; done) | (simp [*]; done)), H', ⟨by have := HK1.out; omega⟩, by repeat (first | exact Drawn0.refl _ | apply Drawn0.step)⟩
                · replace c9 := Bool.eq_false_iff.mpr c9
                  subst c9
                  have H1 : (some false) = some r := by rw [if_neg (show ¬ (false = true) by decide)] at H; exact H
                  clear H
                  have H := H1
                  clear H1
                  obtain rfl := Option.some.inj H
                  have p103 : 0 ≤ (x13_1 : Int) := of_decide_eq_true (by first | (with_reducible assumption) | assumption)
                  have q103 : x13_1 < (l0.length : Int) := of_decide_eq_true (by first | (with_reducible assumption) | assumption)
                  obtain ⟨ad103, A103_0, c103_0, e103, hx103_0, hl103_0, hi103_0⟩ := at_L1 HR0.out x13_1 p103 q103
                  cases e103
                  have HR103_0 := Aside0.mk hi103_0
                  have HC103_0 := Aside0.mk hl103_0
                  clear hi103_0 hl103_0
                  replace p103 := eq_true p103
                  replace q103 := eq_true q103
                  have p104 : 0 ≤ (x13_1 : Int) := of_decide_eq_true (by first | (with_reducible assumption) | assumption)
                  have q104 : x13_1 < (l1.length : Int) := of_decide_eq_true (by first | (with_reducible assumption) | assumption)
                  obtain ⟨ad104, A104_0, c104_0, e104, hx104_0, hl104_0, hi104_0⟩ := at_L1 HR1.out x13_1 p104 q104
                  cases e104
                  have HR104_0 := Aside0.mk hi104_0
                  have HC104_0 := Aside0.mk hl104_0
                  clear hi104_0 hl104_0
                  replace p104 := eq_true p104
                  replace q104 := eq_true q104
                  go_wp2_with (first | (go_at_call 12; (with_reducible refine (slices_Equal_int16_int16.calls k1 _ _ (rd_L1 l0 x13_1) _ _ (rd_L1 l1 x13_1) false _ ?side1 ?side2 ?side3 ?side4 A8.out).mono ?_); (case side1 => repeat (first | exact HR103_0.out | (with_reducible refine Kd.C_alloc ?_ _) | (with_reducible refine Kd.C_drewN ?_ _) | (with_reducible refine Kd.C_drew ?_))); (case side2 => exact HC103_0.out); (case side3 => repeat (first | exact HR104_0.out | (with_reducible refine Kd.C_alloc ?_ _) | (with_reducible refine Kd.C_drewN ?_ _) | (with_reducible refine Kd.C_drew ?_))); (case side4 => exact HC104_0.out); rintro e w' ⟨rfl, ⟨nd, rfl⟩⟩; (try first | exact ⟨rfl, _, World.drewN_drewN _ _ _⟩ | exact ⟨rfl, _, Eq.trans (World.drewN_drewN _ _ _) (congrArg (World.drewN _) (Nat.add_assoc _ _ _))⟩)))
                  repeat (go_quiet (first | (go_at_call 12; (with_reducible refine (slices_Equal_int16_int16.calls k1 _ _ (rd_L1 l0 x13_1) _ _ (rd_L1 l1 x13_1) false _ ?side1 ?side2 ?side3 ?side4 A8.out).mono ?_); (case side1 => repeat (first | exact HR103_0.out | (with_reducible refine Kd.C_alloc ?_ _) | (with_reducible refine Kd.C_drewN ?_ _) | (with_reducible refine Kd.C_drew ?_))); (case side2 => exact HC103_0.out); (case side3 => repeat (first | exact HR104_0.out | (with_reducible refine Kd.C_alloc ?_ _) | (with_reducible refine Kd.C_drewN ?_ _) | (with_reducible refine Kd.C_drew ?_))); (case side4 => exact HC104_0.out); rintro e w' ⟨rfl, ⟨nd, rfl⟩⟩; (try first | exact ⟨rfl, _, World.drewN_drewN _ _ _⟩ | exact ⟨rfl, _, Eq.trans (World.drewN_drewN _ _ _) (congrArg (World.drewN _) (Nat.add_assoc _ _ _))⟩))); try go_wp2_with (first | (go_at_call 12; (with_reducible refine (slices_Equal_int16_int16.calls k1 _ _ (rd_L1 l0 x13_1) _ _ (rd_L1 l1 x13_1) false _ ?side1 ?side2 ?side3 ?side4 A8.out).mono ?_); (case side1 => repeat (first | exact HR103_0.out | (with_reducible refine Kd.C_alloc ?_ _) | (with_reducible refine Kd.C_drewN ?_ _) | (with_reducible refine Kd.C_drew ?_))); (case side2 => exact HC103_0.out); (case side3 => repeat (first | exact HR104_0.out | (with_reducible refine Kd.C_alloc ?_ _) | (with_reducible refine Kd.C_drewN ?_ _) | (with_reducible refine Kd.C_drew ?_))); (case side4 => exact HC104_0.out); rintro e w' ⟨rfl, ⟨nd, rfl⟩⟩; (try first | exact ⟨rfl, _, World.drewN_drewN _ _ _⟩ | exact ⟨rfl, _, Eq.trans (World.drewN_drewN _ _ _) (congrArg (World.drewN _) (Nat.add_assoc _ _ _))⟩))))
                  go_ret
                  exact ⟨by first | rfl | (simp; done) | (simp [*]; done), by repeat (first | exact Drawn0.refl _ | apply Drawn0.step)⟩
              · rw [if_neg c7] at H
                exact absurd H (by simp)
            · rw [if_neg c6] at H
              exact absurd H (by simp)
          · rw [if_neg c5] at H
            exact absurd H (by simp)
        · rw [if_neg c4] at H
          have c4b0 : decide (x13_1 < (l0.length : Int)) = false := decide_eq_false c4
          clear c4
          obtain rfl := Option.some.inj H
          go_wp2
          repeat (go_quiet (fail); try go_wp2)
          go_ret
          exact ⟨by first | rfl | (simp; done) | (simp [*]; done), by repeat (first | exact Drawn0.refl _ | apply Drawn0.step)⟩
  · rw [if_neg c3] at H
    have c3b0 : ((l0.length : Int) == (l1.length : Int)) = false := beq_eq_false_iff_ne.mpr c3
    have c3b1 : ((l0.length : Int) != (l1.length : Int)) = true := bne_iff_ne.mpr c3
    have c3b2 : (l0.length == l1.length) = false := by first | simpa using c3 | (simp at c3 ⊢; omega)
    obtain rfl := Option.some.inj H
    go_enter Tryz.func11, Tryz.ntmps11
    go_wp2
    repeat (go_quiet (fail); try go_wp2)
    go_ret
    exact ⟨by first | rfl | (simp; done) | (simp [*]; done), by repeat (first | exact Drawn0.refl _ | apply Drawn0.step)⟩


end Go.Proofs.YtloomikigalnfaaGreatDoor.PAll
end

section
namespace Go.Proofs.YtloomikigalnfaaGreatDoor.PAll
open Go.RowKit Go.Proofs.YtloomikigalnfaaGreatDoorW.PrintWords Go.Proofs.YtloomikigalnfaaGreatDoorW.PrintLast Go.Proofs.YtloomikigalnfaaGreatDoorW.PrintMore
attribute [local go_sem] max2_int min2_int max_two min_two max_three min_three max_four min_four
set_option linter.unusedVariables false
set_option linter.unusedSimpArgs false
set_option maxHeartbeats 8000000 in
set_option maxRecDepth 100000 in
theorem Eq5.calls0 (k : Nat) (A0_0 : Option Addr) (c0_0 : Nat) (l0_0 : List (List Int)) (A0_1 : Option Addr) (c0_1 : Nat) (l0_1 : List (List Int)) (A0_2 : Option Addr) (c0_2 : Nat) (l0_2 : List (S59)) (A0_3 : Option Addr) (c0_3 : Nat) (l0_3 : List Int) (A1_0 : Option Addr) (c1_0 : Nat) (l1_0 : List (List Int)) (A1_1 : Option Addr) (c1_1 : Nat) (l1_1 : List (List Int)) (A1_2 : Option Addr) (c1_2 : Nat) (l1_2 : List (S59)) (A1_3 : Option Addr) (c1_3 : Nat) (l1_3 : List Int) (r1 r2 r3 : Bool) (w : World) (hr0_0 : Kd.C (Kd.slice 51 (Kd.int .i16)) w A0_0 l0_0.length l0_0) (hc0_0 : l0_0.length ≤ c0_0) (hr0_1 : Kd.C (Kd.slice 51 (Kd.int .i16)) w A0_1 l0_1.length l0_1) (hc0_1 : l0_1.length ≤ c0_1) (hr0_2 : Kd.C k59 w A0_2 l0_2.length l0_2) (hc0_2 : l0_2.length ≤ c0_2) (hr0_3 : Kd.C (Kd.int .i16) w A0_3 l0_3.length l0_3) (hc0_3 : l0_3.length ≤ c0_3) (hr1_0 : Kd.C (Kd.slice 51 (Kd.int .i16)) w A1_0 l1_0.length l1_0) (hc1_0 : l1_0.length ≤ c1_0) (hr1_1 : Kd.C (Kd.slice 51 (Kd.int .i16)) w A1_1 l1_1.length l1_1) (hc1_1 : l1_1.length ≤ c1_1) (hr1_2 : Kd.C k59 w A1_2 l1_2.length l1_2) (hc1_2 : l1_2.length ≤ c1_2) (hr1_3 : Kd.C (Kd.int .i16) w A1_3 l1_3.length l1_3) (hc1_3 : l1_3.length ≤ c1_3) (h0 : EqFunc.f k l0_0 l1_0 = some false) (h1 : EqFunc.f k l0_1 l1_1 = some r1) (h2 : api_Output.f k l0_2 l1_2 = some r2) (h3 : slices_Equal_int16_int16.f k l0_3 l1_3 = some r3) :
    Calls Tryz.prog 5 #[.agg #[.slice A0_0 l0_0.length c0_0, .slice A0_1 l0_1.length c0_1, .slice A0_2 l0_2.length c0_2, .slice A0_3 l0_3.length c0_3], .agg #[.slice A1_0 l1_0.length c1_0, .slice A1_1 l1_1.length c1_1, .slice A1_2 l1_2.length c1_2, .slice A1_3 l1_3.length c1_3]] w fun e w' => e = .returned (.bool (false)) ∧ Below w.heap.size w w' := by
  have hu28 := Tryz.underlying28
  have hu24 := Tryz.underlying24
  have HR0_0 := Aside0.mk hr0_0
  have HC0_0 := Aside0.mk hc0_0
  clear hr0_0 hc0_0
  have HR0_1 := Aside0.mk hr0_1
  have HC0_1 := Aside0.mk hc0_1
  clear hr0_1 hc0_1
  have HR0_2 := Aside0.mk hr0_2
  have HC0_2 := Aside0.mk hc0_2
  clear hr0_2 hc0_2
  have HR0_3 := Aside0.mk hr0_3
  have HC0_3 := Aside0.mk hc0_3
  clear hr0_3 hc0_3
  have HR1_0 := Aside0.mk hr1_0
  have HC1_0 := Aside0.mk hc1_0
  clear hr1_0 hc1_0
  have HR1_1 := Aside0.mk hr1_1
  have HC1_1 := Aside0.mk hc1_1
  clear hr1_1 hc1_1
  have HR1_2 := Aside0.mk hr1_2
  have HC1_2 := Aside0.mk hc1_2
  clear hr1_2 hc1_2
  have HR1_3 := Aside0.mk hr1_3
  have HC1_3 := Aside0.mk hc1_3
  clear hr1_3 hc1_3
  have HB := Aside0.mk (Below.refl w.heap.size w)
  have A0 := Aside0.mk h0
  clear h0
  have A1 := Aside0.mk h1
  clear h1
  have A2 := Aside0.mk h2
  clear h2
  have A3 := Aside0.mk h3
  clear h3
  go_enter Tryz.func5, Tryz.ntmps5
  go_wp2_with (first | ((with_reducible refine gate_dst (N := 2) rfl ?_); refine box_event ?hg (N := 2) ?hd (cs := #[.slice A0_0 l0_0.length c0_0, .slice A0_1 l0_1.length c0_1, .slice A0_2 l0_2.length c0_2, .slice A0_3 l0_3.length c0_3]) (t := 28) ?hr ?_; (case hd => rfl); (case hg => rfl); (case hr => first | (go_simp; done) | (go_simp; rfl)); intro gb112 hg w8 hbox hb; have n0_ := Aside0.mk (below_step (by repeat (first | (with_reducible first | exact HB.out | apply below_alloc | apply pw_below_drewN | apply below_drew1) | exact HB.out)) hb); have n1_ := Aside0.mk (hbox); have n2_ := Aside0.mk ((by rw [hg]; exact (below_size (by repeat (first | (with_reducible first | exact HB.out | apply below_alloc | apply pw_below_drewN | apply below_drew1) | exact HB.out))) : w.heap.size ≤ gb112)); have n3_ := Aside0.mk ((by rw [hg]; exact (below_size (by repeat (first | (with_reducible first | exact HB.out | apply below_alloc | apply pw_below_drewN | apply below_drew1) | exact HB.out))) : w.heap.size ≤ gb112)); clear HB; have HB := n0_; have BK112 := n1_; have GW112 := n2_; have GE112 := n3_; clear n0_ n1_ n2_ n3_; clear hb hbox hg) | ((with_reducible refine gate_dst (N := 3) rfl ?_); refine box_event ?hg (N := 3) ?hd (cs := #[.slice A1_0 l1_0.length c1_0, .slice A1_1 l1_1.length c1_1, .slice A1_2 l1_2.length c1_2, .slice A1_3 l1_3.length c1_3]) (t := 28) ?hr ?_; (case hd => rfl); (case hg => rfl); (case hr => first | (go_simp; done) | (go_simp; rfl)); intro gb113 hg w9 hbox hb; have n0_ := Aside0.mk (blk_below (g := gb112) (o := .cells #[.slice A0_0 l0_0.length c0_0, .slice A0_1 l0_1.length c0_1, .slice A0_2 l0_2.length c0_2, .slice A0_3 l0_3.length c0_3] 28 (0, 0)) (by (with_reducible repeat (first | refine blk_drewN ?_ _ | refine blk_drew ?_ | refine blk_alloc ?_ _)); exact BK112.out) hb); have n1_ := Aside0.mk (below_step (by repeat (first | (with_reducible first | exact HB.out | apply below_alloc | apply pw_below_drewN | apply below_drew1 | refine below_set ?_ GE112.out) | exact HB.out)) hb); have n2_ := Aside0.mk (hbox); have n3_ := Aside0.mk ((by rw [hg]; exact (below_size (by repeat (first | (with_reducible first | exact HB.out | apply below_alloc | apply pw_below_drewN | apply below_drew1 | refine below_set ?_ GE112.out) | exact HB.out))) : w.heap.size ≤ gb113)); have n4_ := Aside0.mk ((by rw [hg]; exact (below_size (by repeat (first | (with_reducible first | exact HB.out | apply below_alloc | apply pw_below_drewN | apply below_drew1 | refine below_set ?_ GE112.out) | exact HB.out))) : w.heap.size ≤ gb113)); have n5_ := Aside0.mk ((by rw [hg]; exact Nat.ne_of_lt (blk_lt (g := gb112) (o := .cells #[.slice A0_0 l0_0.length c0_0, .slice A0_1 l0_1.length c0_1, .slice A0_2 l0_2.length c0_2, .slice A0_3 l0_3.length c0_3] 28 (0, 0)) (by (with_reducible repeat (first | refine blk_drewN ?_ _ | refine blk_drew ?_ | refine blk_alloc ?_ _)); exact BK112.out)) : gb112 ≠ gb113)); have n6_ := Aside0.mk ((by rw [hg]; exact Nat.ne_of_gt (blk_lt (g := gb112) (o := .cells #[.slice A0_0 l0_0.length c0_0, .slice A0_1 l0_1.length c0_1, .slice A0_2 l0_2.length c0_2, .slice A0_3 l0_3.length c0_3] 28 (0, 0)) (by (with_reducible repeat (first | refine blk_drewN ?_ _ | refine blk_drew ?_ | refine blk_alloc ?_ _)); exact BK112.out)) : gb113 ≠ gb112)); clear BK112; clear HB; have BK112 := n0_; have HB := n1_; have BK113 := n2_; have GW113 := n3_; have GE113 := n4_; have NB112_113 := n5_; have NB113_112 := n6_; clear n0_ n1_ n2_ n3_ n4_ n5_ n6_; clear hb hbox hg; have hnb10 := NB112_113.out; have hnc10 := NB113_112.out; have hcz11_0 : w9.cell? ⟨gb112, 0, none⟩ = some (.slice A0_0 l0_0.length c0_0) := (blk_cell BK112.out 0).trans rfl; have hcz11_1 : w9.cell? ⟨gb112, 1, none⟩ = some (.slice A0_1 l0_1.length c0_1) := (blk_cell BK112.out 1).trans rfl; have hcz11_2 : w9.cell? ⟨gb112, 2, none⟩ = some (.slice A0_2 l0_2.length c0_2) := (blk_cell BK112.out 2).trans rfl; have hcz11_3 : w9.cell? ⟨gb112, 3, none⟩ = some (.slice A0_3 l0_3.length c0_3) := (blk_cell BK112.out 3).trans rfl; have hfz11_0 := blk_frozen BK112.out 0; have hfz11_1 := blk_frozen BK112.out 1; have hfz11_2 := blk_frozen BK112.out 2; have hfz11_3 := blk_frozen BK112.out 3; have hcz12_0 : w9.cell? ⟨gb113, 0, none⟩ = some (.slice A1_0 l1_0.length c1_0) := (blk_cell BK113.out 0).trans rfl; have hcz12_1 : w9.cell? ⟨gb113, 1, none⟩ = some (.slice A1_1 l1_1.length c1_1) := (blk_cell BK113.out 1).trans rfl; have hcz12_2 : w9.cell? ⟨gb113, 2, none⟩ = some (.slice A1_2 l1_2.length c1_2) := (blk_cell BK113.out 2).trans rfl; have hcz12_3 : w9.cell? ⟨gb113, 3, none⟩ = some (.slice A1_3 l1_3.length c1_3) := (blk_cell BK113.out 3).trans rfl; have hfz12_0 := blk_frozen BK113.out 0; have hfz12_1 := blk_frozen BK113.out 1; have hfz12_2 := blk_frozen BK113.out 2; have hfz12_3 := blk_frozen BK113.out 3) | (go_at_call 11; (with_reducible refine (EqFunc.calls k _ _ l0_0 _ _ l1_0 false _ ?side1 ?side2 ?side3 ?side4 A0.out).mono ?_); (case side1 => repeat (first | exact (Kd.C_below HR0_0.out (by repeat (first | (with_reducible first | exact HB.out | apply below_alloc | apply pw_below_drewN | apply below_drew1 | refine below_set ?_ GE112.out | refine below_set ?_ GE113.out) | exact HB.out))) | (with_reducible refine Kd.C_alloc ?_ _) | (with_reducible refine Kd.C_drewN ?_ _) | (with_reducible refine Kd.C_drew ?_))); (case side2 => exact HC0_0.out); (case side3 => repeat (first | exact (Kd.C_below HR1_0.out (by repeat (first | (with_reducible first | exact HB.out | apply below_alloc | apply pw_below_drewN | apply below_drew1 | refine below_set ?_ GE112.out | refine below_set ?_ GE113.out) | exact HB.out))) | (with_reducible refine Kd.C_alloc ?_ _) | (with_reducible refine Kd.C_drewN ?_ _) | (with_reducible refine Kd.C_drew ?_))); (case side4 => exact HC1_0.out); rintro e w' ⟨rfl, ⟨nd, rfl⟩⟩) | (go_at_call 11; (with_reducible refine (EqFunc.calls k _ _ l0_1 _ _ l1_1 r1 _ ?side1 ?side2 ?side3 ?side4 A1.out).mono ?_); (case side1 => repeat (first | exact (Kd.C_below HR0_1.out (by repeat (first | (with_reducible first | exact HB.out | apply below_alloc | apply pw_below_drewN | apply below_drew1 | refine below_set ?_ GE112.out | refine below_set ?_ GE113.out) | exact HB.out))) | (with_reducible refine Kd.C_alloc ?_ _) | (with_reducible refine Kd.C_drewN ?_ _) | (with_reducible refine Kd.C_drew ?_))); (case side2 => exact HC0_1.out); (case side3 => repeat (first | exact (Kd.C_below HR1_1.out (by repeat (first | (with_reducible first | exact HB.out | apply below_alloc | apply pw_below_drewN | apply below_drew1 | refine below_set ?_ GE112.out | refine below_set ?_ GE113.out) | exact HB.out))) | (with_reducible refine Kd.C_alloc ?_ _) | (with_reducible refine Kd.C_drewN ?_ _) | (with_reducible refine Kd.C_drew ?_))); (case side4 => exact HC1_1.out); rintro e w' ⟨rfl, ⟨nd, rfl⟩⟩) | (go_at_call 13; (with_reducible refine (api_Output.calls k _ _ l0_2 _ _ l1_2 r2 _ ?side1 ?side2 ?side3 ?side4 A2.out).mono ?_); (case side1 => repeat (first | exact (Kd.C_below HR0_2.out (by repeat (first | (with_reducible first | exact HB.out | apply below_alloc | apply pw_below_drewN | apply below_drew1 | refine below_set ?_ GE112.out | refine below_set ?_ GE113.out) | exact HB.out))) | (with_reducible refine Kd.C_alloc ?_ _) | (with_reducible refine Kd.C_drewN ?_ _) | (with_reducible refine Kd.C_drew ?_))); (case side2 => exact HC0_2.out); (case side3 => repeat (first | exact (Kd.C_below HR1_2.out (by repeat (first | (with_reducible first | exact HB.out | apply below_alloc | apply pw_below_drewN | apply below_drew1 | refine below_set ?_ GE112.out | refine below_set ?_ GE113.out) | exact HB.out))) | (with_reducible refine Kd.C_alloc ?_ _) | (with_reducible refine Kd.C_drewN ?_ _) | (with_reducible refine Kd.C_drew ?_))); (case side4 => exact HC1_2.out); rintro e w' ⟨rfl, ⟨nd, rfl⟩⟩) | (go_at_call 12; (with_reducible refine (slices_Equal_int16_int16.calls k _ _ l0_3 _ _ l1_3 r3 _ ?side1 ?side2 ?side3 ?side4 A3.out).mono ?_); (case side1 => repeat (first | exact (Kd.C_below HR0_3.out (by repeat (first | (with_reducible first | exact HB.out | apply below_alloc | apply pw_below_drewN | apply below_drew1 | refine below_set ?_ GE112.out | refine below_set ?_ GE113.out) | exact HB.out))) | (with_reducible refine Kd.C_alloc ?_ _) | (with_reducible refine Kd.C_drewN ?_ _) | (with_reducible refine Kd.C_drew ?_))); (case side2 => exact HC0_3.out); (case side3 => repeat (first | exact (Kd.C_below HR1_3.out (by repeat (first | (with_reducible first | exact HB.out | apply below_alloc | apply pw_below_drewN | apply below_drew1 | refine below_set ?_ GE112.out | refine below_set ?_ GE113.out) | exact HB.out))) | (with_reducible refine Kd.C_alloc ?_ _) | (with_reducible refine Kd.C_drewN ?_ _) | (with_reducible refine Kd.C_drew ?_))); (case side4 => exact HC1_3.out); rintro e w' ⟨rfl, ⟨nd, rfl⟩⟩))
  go_ret
  exact ⟨by first | rfl | (simp; done) | (simp [*]; done), by repeat (first | (with_reducible first | exact HB.out | apply below_alloc | apply pw_below_drewN | apply below_drew1 | refine below_set ?_ GE112.out | refine below_set ?_ GE113.out) | exact HB.out)⟩
set_option maxHeartbeats 8000000 in
set_option maxRecDepth 100000 in
theorem Eq5.calls1 (k : Nat) (A0_0 : Option Addr) (c0_0 : Nat) (l0_0 : List (List Int)) (A0_1 : Option Addr) (c0_1 : Nat) (l0_1 : List (List Int)) (A0_2 : Option Addr) (c0_2 : Nat) (l0_2 : List (S59)) (A0_3 : Option Addr) (c0_3 : Nat) (l0_3 : List Int) (A1_0 : Option Addr) (c1_0 : Nat) (l1_0 : List (List Int)) (A1_1 : Option Addr) (c1_1 : Nat) (l1_1 : List (List Int)) (A1_2 : Option Addr) (c1_2 : Nat) (l1_2 : List (S59)) (A1_3 : Option Addr) (c1_3 : Nat) (l1_3 : List Int) (r2 r3 : Bool) (w : World) (hr0_0 : Kd.C (Kd.slice 51 (Kd.int .i16)) w A0_0 l0_0.length l0_0) (hc0_0 : l0_0.length ≤ c0_0) (hr0_1 : Kd.C (Kd.slice 51 (Kd.int .i16)) w A0_1 l0_1.length l0_1) (hc0_1 : l0_1.length ≤ c0_1) (hr0_2 : Kd.C k59 w A0_2 l0_2.length l0_2) (hc0_2 : l0_2.length ≤ c0_2) (hr0_3 : Kd.C (Kd.int .i16) w A0_3 l0_3.length l0_3) (hc0_3 : l0_3.length ≤ c0_3) (hr1_0 : Kd.C (Kd.slice 51 (Kd.int .i16)) w A1_0 l1_0.length l1_0) (hc1_0 : l1_0.length ≤ c1_0) (hr1_1 : Kd.C (Kd.slice 51 (Kd.int .i16)) w A1_1 l1_1.length l1_1) (hc1_1 : l1_1.length ≤ c1_1) (hr1_2 : Kd.C k59 w A1_2 l1_2.length l1_2) (hc1_2 : l1_2.length ≤ c1_2) (hr1_3 : Kd.C (Kd.int .i16) w A1_3 l1_3.length l1_3) (hc1_3 : l1_3.length ≤ c1_3) (h0 : EqFunc.f k l0_0 l1_0 = some true) (h1 : EqFunc.f k l0_1 l1_1 = some false) (h2 : api_Output.f k l0_2 l1_2 = some r2) (h3 : slices_Equal_int16_int16.f k l0_3 l1_3 = some r3) :
    Calls Tryz.prog 5 #[.agg #[.slice A0_0 l0_0.length c0_0, .slice A0_1 l0_1.length c0_1, .slice A0_2 l0_2.length c0_2, .slice A0_3 l0_3.length c0_3], .agg #[.slice A1_0 l1_0.length c1_0, .slice A1_1 l1_1.length c1_1, .slice A1_2 l1_2.length c1_2, .slice A1_3 l1_3.length c1_3]] w fun e w' => e = .returned (.bool (false)) ∧ Below w.heap.size w w' := by
  have hu28 := Tryz.underlying28
  have hu24 := Tryz.underlying24
  have HR0_0 := Aside0.mk hr0_0
  have HC0_0 := Aside0.mk hc0_0
  clear hr0_0 hc0_0
  have HR0_1 := Aside0.mk hr0_1
  have HC0_1 := Aside0.mk hc0_1
  clear hr0_1 hc0_1
  have HR0_2 := Aside0.mk hr0_2
  have HC0_2 := Aside0.mk hc0_2
  clear hr0_2 hc0_2
  have HR0_3 := Aside0.mk hr0_3
  have HC0_3 := Aside0.mk hc0_3
  clear hr0_3 hc0_3
  have HR1_0 := Aside0.mk hr1_0
  have HC1_0 := Aside0.mk hc1_0
  clear hr1_0 hc1_0
  have HR1_1 := Aside0.mk hr1_1
  have HC1_1 := Aside0.mk hc1_1
  clear hr1_1 hc1_1
  have HR1_2 := Aside0.mk hr1_2
  have HC1_2 := Aside0.mk hc1_2
  clear hr1_2 hc1_2
  have HR1_3 := Aside0.mk hr1_3
  have HC1_3 := Aside0.mk hc1_3
  clear hr1_3 hc1_3
  have HB := Aside0.mk (Below.refl w.heap.size w)
  have A0 := Aside0.mk h0
  clear h0
  have A1 := Aside0.mk h1
  clear h1
  have A2 := Aside0.mk h2
  clear h2
  have A3 := Aside0.mk h3
  clear h3
  go_enter Tryz.func5, Tryz.ntmps5
  go_wp2_with (first | ((with_reducible refine gate_dst (N := 2) rfl ?_); refine box_event ?hg (N := 2) ?hd (cs := #[.slice A0_0 l0_0.length c0_0, .slice A0_1 l0_1.length c0_1, .slice A0_2 l0_2.length c0_2, .slice A0_3 l0_3.length c0_3]) (t := 28) ?hr ?_; (case hd => rfl); (case hg => rfl); (case hr => first | (go_simp; done) | (go_simp; rfl)); intro gb112 hg w8 hbox hb; have n0_ := Aside0.mk (below_step (by repeat (first | (with_reducible first | exact HB.out | apply below_alloc | apply pw_below_drewN | apply below_drew1) | exact HB.out)) hb); have n1_ := Aside0.mk (hbox); have n2_ := Aside0.mk ((by rw [hg]; exact (below_size (by repeat (first | (with_reducible first | exact HB.out | apply below_alloc | apply pw_below_drewN | apply below_drew1) | exact HB.out))) : w.heap.size ≤ gb112)); have n3_ := Aside0.mk ((by rw [hg]; exact (below_size (by repeat (first | (with_reducible first | exact HB.out | apply below_alloc | apply pw_below_drewN | apply below_drew1) | exact HB.out))) : w.heap.size ≤ gb112)); clear HB; have HB := n0_; have BK112 := n1_; have GW112 := n2_; have GE112 := n3_; clear n0_ n1_ n2_ n3_; clear hb hbox hg) | ((with_reducible refine gate_dst (N := 3) rfl ?_); refine box_event ?hg (N := 3) ?hd (cs := #[.slice A1_0 l1_0.length c1_0, .slice A1_1 l1_1.length c1_1, .slice A1_2 l1_2.length c1_2, .slice A1_3 l1_3.length c1_3]) (t := 28) ?hr ?_; (case hd => rfl); (case hg => rfl); (case hr => first | (go_simp; done) | (go_simp; rfl)); intro gb113 hg w9 hbox hb; have n0_ := Aside0.mk (blk_below (g := gb112) (o := .cells #[.slice A0_0 l0_0.length c0_0, .slice A0_1 l0_1.length c0_1, .slice A0_2 l0_2.length c0_2, .slice A0_3 l0_3.length c0_3] 28 (0, 0)) (by (with_reducible repeat (first | refine blk_drewN ?_ _ | refine blk_drew ?_ | refine blk_alloc ?_ _)); exact BK112.out) hb); have n1_ := Aside0.mk (below_step (by repeat (first | (with_reducible first | exact HB.out | apply below_alloc | apply pw_below_drewN | apply below_drew1 | refine below_set ?_ GE112.out) | exact HB.out)) hb); have n2_ := Aside0.mk (hbox); have n3_ := Aside0.mk ((by rw [hg]; exact (below_size (by repeat (first | (with_reducible first | exact HB.out | apply below_alloc | apply pw_below_drewN | apply below_drew1 | refine below_set ?_ GE112.out) | exact HB.out))) : w.heap.size ≤ gb113)); have n4_ := Aside0.mk ((by rw [hg]; exact (below_size (by repeat (first | (with_reducible first | exact HB.out | apply below_alloc | apply pw_below_drewN | apply below_drew1 | refine below_set ?_ GE112.out) | exact HB.out))) : w.heap.size ≤ gb113)); have n5_ := Aside0.mk ((by rw [hg]; exact Nat.ne_of_lt (blk_lt (g := gb112) (o := .cells #[.slice A0_0 l0_0.length c0_0, .slice A0_1 l0_1.length c0_1, .slice A0_2 l0_2.length c0_2, .slice A0_3 l0_3.length c0_3] 28 (0, 0)) (by (with_reducible repeat (first | refine blk_drewN ?_ _ | refine blk_drew ?_ | refine blk_alloc ?_ _)); exact BK112.out)) : gb112 ≠ gb113)); have n6_ := Aside0.mk ((by rw [hg]; exact Nat.ne_of_gt (blk_lt (g := gb112) (o := .cells #[.slice A0_0 l0_0.length c0_0, .slice A0_1 l0_1.length c0_1, .slice A0_2 l0_2.length c0_2, .slice A0_3 l0_3.length c0_3] 28 (0, 0)) (by (with_reducible repeat (first | refine blk_drewN ?_ _ | refine blk_drew ?_ | refine blk_alloc ?_ _)); exact BK112.out)) : gb113 ≠ gb112)); clear BK112; clear HB; have BK112 := n0_; have HB := n1_; have BK113 := n2_; have GW113 := n3_; have GE113 := n4_; have NB112_113 := n5_; have NB113_112 := n6_; clear n0_ n1_ n2_ n3_ n4_ n5_ n6_; clear hb hbox hg; have hnb10 := NB112_113.out; have hnc10 := NB113_112.out; have hcz11_0 : w9.cell? ⟨gb112, 0, none⟩ = some (.slice A0_0 l0_0.length c0_0) := (blk_cell BK112.out 0).trans rfl; have hcz11_1 : w9.cell? ⟨gb112, 1, none⟩ = some (.slice A0_1 l0_1.length c0_1) := (blk_cell BK112.out 1).trans rfl; have hcz11_2 : w9.cell? ⟨gb112, 2, none⟩ = some (.slice A0_2 l0_2.length c0_2) := (blk_cell BK112.out 2).trans rfl; have hcz11_3 : w9.cell? ⟨gb112, 3, none⟩ = some (.slice A0_3 l0_3.length c0_3) := (blk_cell BK112.out 3).trans rfl; have hfz11_0 := blk_frozen BK112.out 0; have hfz11_1 := blk_frozen BK112.out 1; have hfz11_2 := blk_frozen BK112.out 2; have hfz11_3 := blk_frozen BK112.out 3; have hcz12_0 : w9.cell? ⟨gb113, 0, none⟩ = some (.slice A1_0 l1_0.length c1_0) := (blk_cell BK113.out 0).trans rfl; have hcz12_1 : w9.cell? ⟨gb113, 1, none⟩ = some (.slice A1_1 l1_1.length c1_1) := (blk_cell BK113.out 1).trans rfl; have hcz12_2 : w9.cell? ⟨gb113, 2, none⟩ = some (.slice A1_2 l1_2.length c1_2) := (blk_cell BK113.out 2).trans rfl; have hcz12_3 : w9.cell? ⟨gb113, 3, none⟩ = some (.slice A1_3 l1_3.length c1_3) := (blk_cell BK113.out 3).trans rfl; have hfz12_0 := blk_frozen BK113.out 0; have hfz12_1 := blk_frozen BK113.out 1; have hfz12_2 := blk_frozen BK113.out 2; have hfz12_3 := blk_frozen BK113.out 3) | (go_at_call 11; (with_reducible refine (EqFunc.calls k _ _ l0_0 _ _ l1_0 true _ ?side1 ?side2 ?side3 ?side4 A0.out).mono ?_); (case side1 => repeat (first | exact (Kd.C_below HR0_0.out (by repeat (first | (with_reducible first | exact HB.out | apply below_alloc | apply pw_below_drewN | apply below_drew1 | refine below_set ?_ GE112.out | refine below_set ?_ GE113.out) | exact HB.out))) | (with_reducible refine Kd.C_alloc ?_ _) | (with_reducible refine Kd.C_drewN ?_ _) | (with_reducible refine Kd.C_drew ?_))); (case side2 => exact HC0_0.out); (case side3 => repeat (first | exact (Kd.C_below HR1_0.out (by repeat (first | (with_reducible first | exact HB.out | apply below_alloc | apply pw_below_drewN | apply below_drew1 | refine below_set ?_ GE112.out | refine below_set ?_ GE113.out) | exact HB.out))) | (with_reducible refine Kd.C_alloc ?_ _) | (with_reducible refine Kd.C_drewN ?_ _) | (with_reducible refine Kd.C_drew ?_))); (case side4 => exact HC1_0.out); rintro e w' ⟨rfl, ⟨nd, rfl⟩⟩) | (go_at_call 11; (with_reducible refine (EqFunc.calls k _ _ l0_1 _ _ l1_1 false _ ?side1 ?side2 ?side3 ?side4 A1.out).mono ?_); (case side1 => repeat (first | exact (Kd.C_below HR0_1.out (by repeat (first | (with_reducible first | exact HB.out | apply below_alloc | apply pw_below_drewN | apply below_drew1 | refine below_set ?_ GE112.out | refine below_set ?_ GE113.out) | exact HB.out))) | (with_reducible refine Kd.C_alloc ?_ _) | (with_reducible refine Kd.C_drewN ?_ _) | (with_reducible refine Kd.C_drew ?_))); (case side2 => exact HC0_1.out); (case side3 => repeat (first | exact (Kd.C_below HR1_1.out (by repeat (first | (with_reducible first | exact HB.out | apply below_alloc | apply pw_below_drewN | apply below_drew1 | refine below_set ?_ GE112.out | refine below_set ?_ GE113.out) | exact HB.out))) | (with_reducible refine Kd.C_alloc ?_ _) | (with_reducible refine Kd.C_drewN ?_ _) | (with_reducible refine Kd.C_drew ?_))); (case side4 => exact HC1_1.out); rintro e w' ⟨rfl, ⟨nd, rfl⟩⟩) | (go_at_call 13; (with_reducible refine (api_Output.calls k _ _ l0_2 _ _ l1_2 r2 _ ?side1 ?side2 ?side3 ?side4 A2.out).mono ?_); (case side1 => repeat (first | exact (Kd.C_below HR0_2.out (by repeat (first | (with_reducible first | exact HB.out | apply below_alloc | apply pw_below_drewN | apply below_drew1 | refine below_set ?_ GE112.out | refine below_set ?_ GE113.out) | exact HB.out))) | (with_reducible refine Kd.C_alloc ?_ _) | (with_reducible refine Kd.C_drewN ?_ _) | (with_reducible refine Kd.C_drew ?_))); (case side2 => exact HC0_2.out); (case side3 => repeat (first | exact (Kd.C_below HR1_2.out (by repeat (first | (with_reducible first | exact HB.out | apply below_alloc | apply pw_below_drewN | apply below_drew1 | refine below_set ?_ GE112.out | refine below_set ?_ GE113.out) | exact HB.out))) | (with_reducible refine Kd.C_alloc ?_ _) | (with_reducible refine Kd.C_drewN ?_ _) | (with_reducible refine Kd.C_drew ?_))); (case side4 => exact HC1_2.out); rintro e w' ⟨rfl, ⟨nd, rfl⟩⟩) | (go_at_call 12; (with_reducible refine (slices_Equal_int16_int16.calls k _ _ l0_3 _ _ l1_3 r3 _ ?side1 ?side2 ?side3 ?side4 A3.out).mono ?_); (case side1 => repeat (first | exact (Kd.C_below HR0_3.out (by repeat (first | (with_reducible first | exact HB.out | apply below_alloc | apply pw_below_drewN | apply below_drew1 | refine below_set ?_ GE112.out | refine below_set ?_ GE113.out) | exact HB.out))) | (with_reducible refine Kd.C_alloc ?_ _) | (with_reducible refine Kd.C_drewN ?_ _) | (with_reducible refine Kd.C_drew ?_))); (case side2 => exact HC0_3.out); (case side3 => repeat (first | exact (Kd.C_below HR1_3.out (by repeat (first | (with_reducible first | exact HB.out | apply below_alloc | apply pw_below_drewN | apply below_drew1 | refine below_set ?_ GE112.out | refine below_set ?_ GE113.out) | exact HB.out))) | (with_reducible refine Kd.C_alloc ?_ _) | (with_reducible refine Kd.C_drewN ?_ _) | (with_reducible refine Kd.C_drew ?_))); (case side4 => exact HC1_3.out); rintro e w' ⟨rfl, ⟨nd, rfl⟩⟩))
  go_ret
  exact ⟨by first | rfl | (simp; done) | (simp [*]; done), by repeat (first | (with_reducible first | exact HB.out | apply below_alloc | apply pw_below_drewN | apply below_drew1 | refine below_set ?_ GE112.out | refine below_set ?_ GE113.out) | exact HB.out)⟩
set_option maxHeartbeats 8000000 in
set_option maxRecDepth 100000 in
theorem Eq5.calls2 (k : Nat) (A0_0 : Option Addr) (c0_0 : Nat) (l0_0 : List (List Int)) (A0_1 : Option Addr) (c0_1 : Nat) (l0_1 : List (List Int)) (A0_2 : Option Addr) (c0_2 : Nat) (l0_2 : List (S59)) (A0_3 : Option Addr) (c0_3 : Nat) (l0_3 : List Int) (A1_0 : Option Addr) (c1_0 : Nat) (l1_0 : List (List Int)) (A1_1 : Option Addr) (c1_1 : Nat) (l1_1 : List (List Int)) (A1_2 : Option Addr) (c1_2 : Nat) (l1_2 : List (S59)) (A1_3 : Option Addr) (c1_3 : Nat) (l1_3 : List Int) (r3 : Bool) (w : World) (hr0_0 : Kd.C (Kd.slice 51 (Kd.int .i16)) w A0_0 l0_0.length l0_0) (hc0_0 : l0_0.length ≤ c0_0) (hr0_1 : Kd.C (Kd.slice 51 (Kd.int .i16)) w A0_1 l0_1.length l0_1) (hc0_1 : l0_1.length ≤ c0_1) (hr0_2 : Kd.C k59 w A0_2 l0_2.length l0_2) (hc0_2 : l0_2.length ≤ c0_2) (hr0_3 : Kd.C (Kd.int .i16) w A0_3 l0_3.length l0_3) (hc0_3 : l0_3.length ≤ c0_3) (hr1_0 : Kd.C (Kd.slice 51 (Kd.int .i16)) w A1_0 l1_0.length l1_0) (hc1_0 : l1_0.length ≤ c1_0) (hr1_1 : Kd.C (Kd.slice 51 (Kd.int .i16)) w A1_1 l1_1.length l1_1) (hc1_1 : l1_1.length ≤ c1_1) (hr1_2 : Kd.C k59 w A1_2 l1_2.length l1_2) (hc1_2 : l1_2.length ≤ c1_2) (hr1_3 : Kd.C (Kd.int .i16) w A1_3 l1_3.length l1_3) (hc1_3 : l1_3.length ≤ c1_3) (h0 : EqFunc.f k l0_0 l1_0 = some true) (h1 : EqFunc.f k l0_1 l1_1 = some true) (h2 : api_Output.f k l0_2 l1_2 = some false) (h3 : slices_Equal_int16_int16.f k l0_3 l1_3 = some r3) :
    Calls Tryz.prog 5 #[.agg #[.slice A0_0 l0_0.length c0_0, .slice A0_1 l0_1.length c0_1, .slice A0_2 l0_2.length c0_2, .slice A0_3 l0_3.length c0_3], .agg #[.slice A1_0 l1_0.length c1_0, .slice A1_1 l1_1.length c1_1, .slice A1_2 l1_2.length c1_2, .slice A1_3 l1_3.length c1_3]] w fun e w' => e = .returned (.bool (false)) ∧ Below w.heap.size w w' := by
  have hu28 := Tryz.underlying28
  have hu24 := Tryz.underlying24
  have HR0_0 := Aside0.mk hr0_0
  have HC0_0 := Aside0.mk hc0_0
  clear hr0_0 hc0_0
  have HR0_1 := Aside0.mk hr0_1
  have HC0_1 := Aside0.mk hc0_1
  clear hr0_1 hc0_1
  have HR0_2 := Aside0.mk hr0_2
  have HC0_2 := Aside0.mk hc0_2
  clear hr0_2 hc0_2
  have HR0_3 := Aside0.mk hr0_3
  have HC0_3 := Aside0.mk hc0_3
  clear hr0_3 hc0_3
  have HR1_0 := Aside0.mk hr1_0
  have HC1_0 := Aside0.mk hc1_0
  clear hr1_0 hc1_0
  have HR1_1 := Aside0.mk hr1_1
  have HC1_1 := Aside0.mk hc1_1
  clear hr1_1 hc1_1
  have HR1_2 := Aside0.mk hr1_2
  have HC1_2 := Aside0.mk hc1_2
  clear hr1_2 hc1_2
  have HR1_3 := Aside0.mk hr1_3
  have HC1_3 := Aside0.mk hc1_3
  clear hr1_3 hc1_3
  have HB := Aside0.mk (Below.refl w.heap.size w)
  have A0 := Aside0.mk h0
  clear h0
  have A1 := Aside0.mk h1
  clear h1
  have A2 := Aside0.mk h2
  clear h2
  have A3 := Aside0.mk h3
  clear h3
  go_enter Tryz.func5, Tryz.ntmps5
  go_wp2_with (first | ((with_reducible refine gate_dst (N := 2) rfl ?_); refine box_event ?hg (N := 2) ?hd (cs := #[.slice A0_0 l0_0.length c0_0, .slice A0_1 l0_1.length c0_1, .slice A0_2 l0_2.length c0_2, .slice A0_3 l0_3.length c0_3]) (t := 28) ?hr ?_; (case hd => rfl); (case hg => rfl); (case hr => first | (go_simp; done) | (go_simp; rfl)); intro gb112 hg w8 hbox hb; have n0_ := Aside0.mk (below_step (by repeat (first | (with_reducible first | exact HB.out | apply below_alloc | apply pw_below_drewN | apply below_drew1) | exact HB.out)) hb); have n1_ := Aside0.mk (hbox); have n2_ := Aside0.mk ((by rw [hg]; exact (below_size (by repeat (first | (with_reducible first | exact HB.out | apply below_alloc | apply pw_below_drewN | apply below_drew1) | exact HB.out))) : w.heap.size ≤ gb112)); have n3_ := Aside0.mk ((by rw [hg]; exact (below_size (by repeat (first | (with_reducible first | exact HB.out | apply below_alloc | apply pw_below_drewN | apply below_drew1) | exact HB.out))) : w.heap.size ≤ gb112)); clear HB; have HB := n0_; have BK112 := n1_; have GW112 := n2_; have GE112 := n3_; clear n0_ n1_ n2_ n3_; clear hb hbox hg) | ((with_reducible refine gate_dst (N := 3) rfl ?_); refine box_event ?hg (N := 3) ?hd (cs := #[.slice A1_0 l1_0.length c1_0, .slice A1_1 l1_1.length c1_1, .slice A1_2 l1_2.length c1_2, .slice A1_3 l1_3.length c1_3]) (t := 28) ?hr ?_; (case hd => rfl); (case hg => rfl); (case hr => first | (go_simp; done) | (go_simp; rfl)); intro gb113 hg w9 hbox hb; have n0_ := Aside0.mk (blk_below (g := gb112) (o := .cells #[.slice A0_0 l0_0.length c0_0, .slice A0_1 l0_1.length c0_1, .slice A0_2 l0_2.length c0_2, .slice A0_3 l0_3.length c0_3] 28 (0, 0)) (by (with_reducible repeat (first | refine blk_drewN ?_ _ | refine blk_drew ?_ | refine blk_alloc ?_ _)); exact BK112.out) hb); have n1_ := Aside0.mk (below_step (by repeat (first | (with_reducible first | exact HB.out | apply below_alloc | apply pw_below_drewN | apply below_drew1 | refine below_set ?_ GE112.out) | exact HB.out)) hb); have n2_ := Aside0.mk (hbox); have n3_ := Aside0.mk ((by rw [hg]; exact (below_size (by repeat (first | (with_reducible first | exact HB.out | apply below_alloc | apply pw_below_drewN | apply below_drew1 | refine below_set ?_ GE112.out) | exact HB.out))) : w.heap.size ≤ gb113)); have n4_ := Aside0.mk ((by rw [hg]; exact (below_size (by repeat (first | (with_reducible first | exact HB.out | apply below_alloc | apply pw_below_drewN | apply below_drew1 | refine below_set ?_ GE112.out) | exact HB.out))) : w.heap.size ≤ gb113)); have n5_ := Aside0.mk ((by rw [hg]; exact Nat.ne_of_lt (blk_lt (g := gb112) (o := .cells #[.slice A0_0 l0_0.length c0_0, .slice A0_1 l0_1.length c0_1, .slice A0_2 l0_2.length c0_2, .slice A0_3 l0_3.length c0_3] 28 (0, 0)) (by (with_reducible repeat (first | refine blk_drewN ?_ _ | refine blk_drew ?_ | refine blk_alloc ?_ _)); exact BK112.out)) : gb112 ≠ gb113)); have n6_ := Aside0.mk ((by rw [hg]; exact Nat.ne_of_gt (blk_lt (g := gb112) (o := .cells #[.slice A0_0 l0_0.length c0_0, .slice A0_1 l0_1.length c0_1, .slice A0_2 l0_2.length c0_2, .slice A0_3 l0_3.length c0_3] 28 (0, 0)) (by (with_reducible repeat (first | refine blk_drewN ?_ _ | refine blk_drew ?_ | refine blk_alloc ?_ _)); exact BK112.out)) : gb113 ≠ gb112)); clear BK112; clear HB; have BK112 := n0_; have HB := n1_; have BK113 := n2_; have GW113 := n3_; have GE113 := n4_; have NB112_113 := n5_; have NB113_112 := n6_; clear n0_ n1_ n2_ n3_ n4_ n5_ n6_; clear hb hbox hg; have hnb10 := NB112_113.out; have hnc10 := NB113_112.out; have hcz11_0 : w9.cell? ⟨gb112, 0, none⟩ = some (.slice A0_0 l0_0.length c0_0) := (blk_cell BK112.out 0).trans rfl; have hcz11_1 : w9.cell? ⟨gb112, 1, none⟩ = some (.slice A0_1 l0_1.length c0_1) := (blk_cell BK112.out 1).trans rfl; have hcz11_2 : w9.cell? ⟨gb112, 2, none⟩ = some (.slice A0_2 l0_2.length c0_2) := (blk_cell BK112.out 2).trans rfl; have hcz11_3 : w9.cell? ⟨gb112, 3, none⟩ = some (.slice A0_3 l0_3.length c0_3) := (blk_cell BK112.out 3).trans rfl; have hfz11_0 := blk_frozen BK112.out 0; have hfz11_1 := blk_frozen BK112.out 1; have hfz11_2 := blk_frozen BK112.out 2; have hfz11_3 := blk_frozen BK112.out 3; have hcz12_0 : w9.cell? ⟨gb113, 0, none⟩ = some (.slice A1_0 l1_0.length c1_0) := (blk_cell BK113.out 0).trans rfl; have hcz12_1 : w9.cell? ⟨gb113, 1, none⟩ = some (.slice A1_1 l1_1.length c1_1) := (blk_cell BK113.out 1).trans rfl; have hcz12_2 : w9.cell? ⟨gb113, 2, none⟩ = some (.slice A1_2 l1_2.length c1_2) := (blk_cell BK113.out 2).trans rfl; have hcz12_3 : w9.cell? ⟨gb113, 3, none⟩ = some (.slice A1_3 l1_3.length c1_3) := (blk_cell BK113.out 3).trans rfl; have hfz12_0 := blk_frozen BK113.out 0; have hfz12_1 := blk_frozen BK113.out 1; have hfz12_2 := blk_frozen BK113.out 2; have hfz12_3 := blk_frozen BK113.out 3) | (go_at_call 11; (with_reducible refine (EqFunc.calls k _ _ l0_0 _ _ l1_0 true _ ?side1 ?side2 ?side3 ?side4 A0.out).mono ?_); (case side1 => repeat (first | exact (Kd.C_below HR0_0.out (by repeat (first | (with_reducible first | exact HB.out | apply below_alloc | apply pw_below_drewN | apply below_drew1 | refine below_set ?_ GE112.out | refine below_set ?_ GE113.out) | exact HB.out))) | (with_reducible refine Kd.C_alloc ?_ _) | (with_reducible refine Kd.C_drewN ?_ _) | (with_reducible refine Kd.C_drew ?_))); (case side2 => exact HC0_0.out); (case side3 => repeat (first | exact (Kd.C_below HR1_0.out (by repeat (first | (with_reducible first | exact HB.out | apply below_alloc | apply pw_below_drewN | apply below_drew1 | refine below_set ?_ GE112.out | refine below_set ?_ GE113.out) | exact HB.out))) | (with_reducible refine Kd.C_alloc ?_ _) | (with_reducible refine Kd.C_drewN ?_ _) | (with_reducible refine Kd.C_drew ?_))); (case side4 => exact HC1_0.out); rintro e w' ⟨rfl, ⟨nd, rfl⟩⟩) | (go_at_call 11; (with_reducible refine (EqFunc.calls k _ _ l0_1 _ _ l1_1 true _ ?side1 ?side2 ?side3 ?side4 A1.out).mono ?_); (case side1 => repeat (first | exact (Kd.C_below HR0_1.out (by repeat (first | (with_reducible first | exact HB.out | apply below_alloc | apply pw_below_drewN | apply below_drew1 | refine below_set ?_ GE112.out | refine below_set ?_ GE113.out) | exact HB.out))) | (with_reducible refine Kd.C_alloc ?_ _) | (with_reducible refine Kd.C_drewN ?_ _) | (with_reducible refine Kd.C_drew ?_))); (case side2 => exact HC0_1.out); (case side3 => repeat (first | exact (Kd.C_below HR1_1.out (by repeat (first | (with_reducible first | exact HB.out | apply below_alloc | apply pw_below_drewN | apply below_drew1 | refine below_set ?_ GE112.out | refine below_set ?_ GE113.out) | exact HB.out))) | (with_reducible refine Kd.C_alloc ?_ _) | (with_reducible refine Kd.C_drewN ?_ _) | (with_reducible refine Kd.C_drew ?_))); (case side4 => exact HC1_1.out); rintro e w' ⟨rfl, ⟨nd, rfl⟩⟩) | (go_at_call 13; (with_reducible refine (api_Output.calls k _ _ l0_2 _ _ l1_2 false _ ?side1 ?side2 ?side3 ?side4 A2.out).mono ?_); (case side1 => repeat (first | exact (Kd.C_below HR0_2.out (by repeat (first | (with_reducible first | exact HB.out | apply below_alloc | apply pw_below_drewN | apply below_drew1 | refine below_set ?_ GE112.out | refine below_set ?_ GE113.out) | exact HB.out))) | (with_reducible refine Kd.C_alloc ?_ _) | (with_reducible refine Kd.C_drewN ?_ _) | (with_reducible refine Kd.C_drew ?_))); (case side2 => exact HC0_2.out); (case side3 => repeat (first | exact (Kd.C_below HR1_2.out (by repeat (first | (with_reducible first | exact HB.out | apply below_alloc | apply pw_below_drewN | apply below_drew1 | refine below_set ?_ GE112.out | refine below_set ?_ GE113.out) | exact HB.out))) | (with_reducible refine Kd.C_alloc ?_ _) | (with_reducible refine Kd.C_drewN ?_ _) | (with_reducible refine Kd.C_drew ?_))); (case side4 => exact HC1_2.out); rintro e w' ⟨rfl, ⟨nd, rfl⟩⟩) | (go_at_call 12; (with_reducible refine (slices_Equal_int16_int16.calls k _ _ l0_3 _ _ l1_3 r3 _ ?side1 ?side2 ?side3 ?side4 A3.out).mono ?_); (case side1 => repeat (first | exact (Kd.C_below HR0_3.out (by repeat (first | (with_reducible first | exact HB.out | apply below_alloc | apply pw_below_drewN | apply below_drew1 | refine below_set ?_ GE112.out | refine below_set ?_ GE113.out) | exact HB.out))) | (with_reducible refine Kd.C_alloc ?_ _) | (with_reducible refine Kd.C_drewN ?_ _) | (with_reducible refine Kd.C_drew ?_))); (case side2 => exact HC0_3.out); (case side3 => repeat (first | exact (Kd.C_below HR1_3.out (by repeat (first | (with_reducible first | exact HB.out | apply below_alloc | apply pw_below_drewN | apply below_drew1 | refine below_set ?_ GE112.out | refine below_set ?_ GE113.out) | exact HB.out))) | (with_reducible refine Kd.C_alloc ?_ _) | (with_reducible refine Kd.C_drewN ?_ _) | (with_reducible refine Kd.C_drew ?_))); (case side4 => exact HC1_3.out); rintro e w' ⟨rfl, ⟨nd, rfl⟩⟩))
  go_ret
  exact ⟨by first | rfl | (simp; done) | (simp [*]; done), by repeat (first | (with_reducible first | exact HB.out | apply below_alloc | apply pw_below_drewN | apply below_drew1 | refine below_set ?_ GE112.out | refine below_set ?_ GE113.out) | exact HB.out)⟩
set_option maxHeartbeats 8000000 in
set_option maxRecDepth 100000 in
theorem Eq5.calls3 (k : Nat) (A0_0 : Option Addr) (c0_0 : Nat) (l0_0 : List (List Int)) (A0_1 : Option Addr) (c0_1 : Nat) (l0_1 : List (List Int)) (A0_2 : Option Addr) (c0_2 : Nat) (l0_2 : List (S59)) (A0_3 : Option Addr) (c0_3 : Nat) (l0_3 : List Int) (A1_0 : Option Addr) (c1_0 : Nat) (l1_0 : List (List Int)) (A1_1 : Option Addr) (c1_1 : Nat) (l1_1 : List (List Int)) (A1_2 : Option Addr) (c1_2 : Nat) (l1_2 : List (S59)) (A1_3 : Option Addr) (c1_3 : Nat) (l1_3 : List Int) (r3 : Bool) (w : World) (hr0_0 : Kd.C (Kd.slice 51 (Kd.int .i16)) w A0_0 l0_0.length l0_0) (hc0_0 : l0_0.length ≤ c0_0) (hr0_1 : Kd.C (Kd.slice 51 (Kd.int .i16)) w A0_1 l0_1.length l0_1) (hc0_1 : l0_1.length ≤ c0_1) (hr0_2 : Kd.C k59 w A0_2 l0_2.length l0_2) (hc0_2 : l0_2.length ≤ c0_2) (hr0_3 : Kd.C (Kd.int .i16) w A0_3 l0_3.length l0_3) (hc0_3 : l0_3.length ≤ c0_3) (hr1_0 : Kd.C (Kd.slice 51 (Kd.int .i16)) w A1_0 l1_0.length l1_0) (hc1_0 : l1_0.length ≤ c1_0) (hr1_1 : Kd.C (Kd.slice 51 (Kd.int .i16)) w A1_1 l1_1.length l1_1) (hc1_1 : l1_1.length ≤ c1_1) (hr1_2 : Kd.C k59 w A1_2 l1_2.length l1_2) (hc1_2 : l1_2.length ≤ c1_2) (hr1_3 : Kd.C (Kd.int .i16) w A1_3 l1_3.length l1_3) (hc1_3 : l1_3.length ≤ c1_3) (h0 : EqFunc.f k l0_0 l1_0 = some true) (h1 : EqFunc.f k l0_1 l1_1 = some true) (h2 : api_Output.f k l0_2 l1_2 = some true) (h3 : slices_Equal_int16_int16.f k l0_3 l1_3 = some r3) :
    Calls Tryz.prog 5 #[.agg #[.slice A0_0 l0_0.length c0_0, .slice A0_1 l0_1.length c0_1, .slice A0_2 l0_2.length c0_2, .slice A0_3 l0_3.length c0_3], .agg #[.slice A1_0 l1_0.length c1_0, .slice A1_1 l1_1.length c1_1, .slice A1_2 l1_2.length c1_2, .slice A1_3 l1_3.length c1_3]] w fun e w' => e = .returned (.bool (r3)) ∧ Below w.heap.size w w' := by
  have hu28 := Tryz.underlying28
  have hu24 := Tryz.underlying24
  have HR0_0 := Aside0.mk hr0_0
  have HC0_0 := Aside0.mk hc0_0
  clear hr0_0 hc0_0
  have HR0_1 := Aside0.mk hr0_1
  have HC0_1 := Aside0.mk hc0_1
  clear hr0_1 hc0_1
  have HR0_2 := Aside0.mk hr0_2
  have HC0_2 := Aside0.mk hc0_2
  clear hr0_2 hc0_2
  have HR0_3 := Aside0.mk hr0_3
  have HC0_3 := Aside0.mk hc0_3
  clear hr0_3 hc0_3
  have HR1_0 := Aside0.mk hr1_0
  have HC1_0 := Aside0.mk hc1_0
  clear hr1_0 hc1_0
  have HR1_1 := Aside0.mk hr1_1
  have HC1_1 := Aside0.mk hc1_1
  clear hr1_1 hc1_1
  have HR1_2 := Aside0.mk hr1_2
  have HC1_2 := Aside0.mk hc1_2
  clear hr1_2 hc1_2
  have HR1_3 := Aside0.mk hr1_3
  have HC1_3 := Aside0.mk hc1_3
  clear hr1_3 hc1_3
  have HB := Aside0.mk (Below.refl w.heap.size w)
  have A0 := Aside0.mk h0
  clear h0
  have A1 := Aside0.mk h1
  clear h1
  have A2 := Aside0.mk h2
  clear h2
  have A3 := Aside0.mk h3
  clear h3
  go_enter Tryz.func5, Tryz.ntmps5
  go_wp2_with (first | ((with_reducible refine gate_dst (N := 2) rfl ?_); refine box_event ?hg (N := 2) ?hd (cs := #[.slice A0_0 l0_0.length c0_0, .slice A0_1 l0_1.length c0_1, .slice A0_2 l0_2.length c0_2, .slice A0_3 l0_3.length c0_3]) (t := 28) ?hr ?_; (case hd => rfl); (case hg => rfl); (case hr => first | (go_simp; done) | (go_simp; rfl)); intro gb112 hg w8 hbox hb; have n0_ := Aside0.mk (below_step (by repeat (first | (with_reducible first | exact HB.out | apply below_alloc | apply pw_below_drewN | apply below_drew1) | exact HB.out)) hb); have n1_ := Aside0.mk (hbox); have n2_ := Aside0.mk ((by rw [hg]; exact (below_size (by repeat (first | (with_reducible first | exact HB.out | apply below_alloc | apply pw_below_drewN | apply below_drew1) | exact HB.out))) : w.heap.size ≤ gb112)); have n3_ := Aside0.mk ((by rw [hg]; exact (below_size (by repeat (first | (with_reducible first | exact HB.out | apply below_alloc | apply pw_below_drewN | apply below_drew1) | exact HB.out))) : w.heap.size ≤ gb112)); clear HB; have HB := n0_; have BK112 := n1_; have GW112 := n2_; have GE112 := n3_; clear n0_ n1_ n2_ n3_; clear hb hbox hg) | ((with_reducible refine gate_dst (N := 3) rfl ?_); refine box_event ?hg (N := 3) ?hd (cs := #[.slice A1_0 l1_0.length c1_0, .slice A1_1 l1_1.length c1_1, .slice A1_2 l1_2.length c1_2, .slice A1_3 l1_3.length c1_3]) (t := 28) ?hr ?_; (case hd => rfl); (case hg => rfl); (case hr => first | (go_simp; done) | (go_simp; rfl)); intro gb113 hg w9 hbox hb; have n0_ := Aside0.mk (blk_below (g := gb112) (o := .cells #[.slice A0_0 l0_0.length c0_0, .slice A0_1 l0_1.length c0_1, .slice A0_2 l0_2.length c0_2, .slice A0_3 l0_3.length c0_3] 28 (0, 0)) (by (with_reducible repeat (first | refine blk_drewN ?_ _ | refine blk_drew ?_ | refine blk_alloc ?_ _)); exact BK112.out) hb); have n1_ := Aside0.mk (below_step (by repeat (first | (with_reducible first | exact HB.out | apply below_alloc | apply pw_below_drewN | apply below_drew1 | refine below_set ?_ GE112.out) | exact HB.out)) hb); have n2_ := Aside0.mk (hbox); have n3_ := Aside0.mk ((by rw [hg]; exact (below_size (by repeat (first | (with_reducible first | exact HB.out | apply below_alloc | apply pw_below_drewN | apply below_drew1 | refine below_set ?_ GE112.out) | exact HB.out))) : w.heap.size ≤ gb113)); have n4_ := Aside0.mk ((by rw [hg]; exact (below_size (by repeat (first | (with_reducible first | exact HB.out | apply below_alloc | apply pw_below_drewN | apply below_drew1 | refine below_set ?_ GE112.out) | exact HB.out))) : w.heap.size ≤ gb113)); have n5_ := Aside0.mk ((by rw [hg]; exact Nat.ne_of_lt (blk_lt (g := gb112) (o := .cells #[.slice A0_0 l0_0.length c0_0, .slice A0_1 l0_1.length c0_1, .slice A0_2 l0_2.length c0_2, .slice A0_3 l0_3.length c0_3] 28 (0, 0)) (by (with_reducible repeat (first | refine blk_drewN ?_ _ | refine blk_drew ?_ | refine blk_alloc ?_ _)); exact BK112.out)) : gb112 ≠ gb113)); have n6_ := Aside0.mk ((by rw [hg]; exact Nat.ne_of_gt (blk_lt (g := gb112) (o := .cells #[.slice A0_0 l0_0.length c0_0, .slice A0_1 l0_1.length c0_1, .slice A0_2 l0_2.length c0_2, .slice A0_3 l0_3.length c0_3] 28 (0, 0)) (by (with_reducible repeat (first | refine blk_drewN ?_ _ | refine blk_drew ?_ | refine blk_alloc ?_ _)); exact BK112.out)) : gb113 ≠ gb112)); clear BK112; clear HB; have BK112 := n0_; have HB := n1_; have BK113 := n2_; have GW113 := n3_; have GE113 := n4_; have NB112_113 := n5_; have NB113_112 := n6_; clear n0_ n1_ n2_ n3_ n4_ n5_ n6_; clear hb hbox hg; have hnb10 := NB112_113.out; have hnc10 := NB113_112.out; have hcz11_0 : w9.cell? ⟨gb112, 0, none⟩ = some (.slice A0_0 l0_0.length c0_0) := (blk_cell BK112.out 0).trans rfl; have hcz11_1 : w9.cell? ⟨gb112, 1, none⟩ = some (.slice A0_1 l0_1.length c0_1) := (blk_cell BK112.out 1).trans rfl; have hcz11_2 : w9.cell? ⟨gb112, 2, none⟩ = some (.slice A0_2 l0_2.length c0_2) := (blk_cell BK112.out 2).trans rfl; have hcz11_3 : w9.cell? ⟨gb112, 3, none⟩ = some (.slice A0_3 l0_3.length c0_3) := (blk_cell BK112.out 3).trans rfl; have hfz11_0 := blk_frozen BK112.out 0; have hfz11_1 := blk_frozen BK112.out 1; have hfz11_2 := blk_frozen BK112.out 2; have hfz11_3 := blk_frozen BK112.out 3; have hcz12_0 : w9.cell? ⟨gb113, 0, none⟩ = some (.slice A1_0 l1_0.length c1_0) := (blk_cell BK113.out 0).trans rfl; have hcz12_1 : w9.cell? ⟨gb113, 1, none⟩ = some (.slice A1_1 l1_1.length c1_1) := (blk_cell BK113.out 1).trans rfl; have hcz12_2 : w9.cell? ⟨gb113, 2, none⟩ = some (.slice A1_2 l1_2.length c1_2) := (blk_cell BK113.out 2).trans rfl; have hcz12_3 : w9.cell? ⟨gb113, 3, none⟩ = some (.slice A1_3 l1_3.length c1_3) := (blk_cell BK113.out 3).trans rfl; have hfz12_0 := blk_frozen BK113.out 0; have hfz12_1 := blk_frozen BK113.out 1; have hfz12_2 := blk_frozen BK113.out 2; have hfz12_3 := blk_frozen BK113.out 3) | (go_at_call 11; (with_reducible refine (EqFunc.calls k _ _ l0_0 _ _ l1_0 true _ ?side1 ?side2 ?side3 ?side4 A0.out).mono ?_); (case side1 => repeat (first | exact (Kd.C_below HR0_0.out (by repeat (first | (with_reducible first | exact HB.out | apply below_alloc | apply pw_below_drewN | apply below_drew1 | refine below_set ?_ GE112.out | refine below_set ?_ GE113.out) | exact HB.out))) | (with_reducible refine Kd.C_alloc ?_ _) | (with_reducible refine Kd.C_drewN ?_ _) | (with_reducible refine Kd.C_drew ?_))); (case side2 => exact HC0_0.out); (case side3 => repeat (first | exact (Kd.C_below HR1_0.out (by repeat (first | (with_reducible first | exact HB.out | apply below_alloc | apply pw_below_drewN | apply below_drew1 | refine below_set ?_ GE112.out | refine below_set ?_ GE113.out) | exact HB.out))) | (with_reducible refine Kd.C_alloc ?_ _) | (with_reducible refine Kd.C_drewN ?_ _) | (with_reducible refine Kd.C_drew ?_))); (case side4 => exact HC1_0.out); rintro e w' ⟨rfl, ⟨nd, rfl⟩⟩) | (go_at_call 11; (with_reducible refine (EqFunc.calls k _ _ l0_1 _ _ l1_1 true _ ?side1 ?side2 ?side3 ?side4 A1.out).mono ?_); (case side1 => repeat (first | exact (Kd.C_below HR0_1.out (by repeat (first | (with_reducible first | exact HB.out | apply below_alloc | apply pw_below_drewN | apply below_drew1 | refine below_set ?_ GE112.out | refine below_set ?_ GE113.out) | exact HB.out))) | (with_reducible refine Kd.C_alloc ?_ _) | (with_reducible refine Kd.C_drewN ?_ _) | (with_reducible refine Kd.C_drew ?_))); (case side2 => exact HC0_1.out); (case side3 => repeat (first | exact (Kd.C_below HR1_1.out (by repeat (first | (with_reducible first | exact HB.out | apply below_alloc | apply pw_below_drewN | apply below_drew1 | refine below_set ?_ GE112.out | refine below_set ?_ GE113.out) | exact HB.out))) | (with_reducible refine Kd.C_alloc ?_ _) | (with_reducible refine Kd.C_drewN ?_ _) | (with_reducible refine Kd.C_drew ?_))); (case side4 => exact HC1_1.out); rintro e w' ⟨rfl, ⟨nd, rfl⟩⟩) | (go_at_call 13; (with_reducible refine (api_Output.calls k _ _ l0_2 _ _ l1_2 true _ ?side1 ?side2 ?side3 ?side4 A2.out).mono ?_); (case side1 => repeat (first | exact (Kd.C_below HR0_2.out (by repeat (first | (with_reducible first | exact HB.out | apply below_alloc | apply pw_below_drewN | apply below_drew1 | refine below_set ?_ GE112.out | refine below_set ?_ GE113.out) | exact HB.out))) | (with_reducible refine Kd.C_alloc ?_ _) | (with_reducible refine Kd.C_drewN ?_ _) | (with_reducible refine Kd.C_drew ?_))); (case side2 => exact HC0_2.out); (case side3 => repeat (first | exact (Kd.C_below HR1_2.out (by repeat (first | (with_reducible first | exact HB.out | apply below_alloc | apply pw_below_drewN | apply below_drew1 | refine below_set ?_ GE112.out | refine below_set ?_ GE113.out) | exact HB.out))) | (with_reducible refine Kd.C_alloc ?_ _) | (with_reducible refine Kd.C_drewN ?_ _) | (with_reducible refine Kd.C_drew ?_))); (case side4 => exact HC1_2.out); rintro e w' ⟨rfl, ⟨nd, rfl⟩⟩) | (go_at_call 12; (with_reducible refine (slices_Equal_int16_int16.calls k _ _ l0_3 _ _ l1_3 r3 _ ?side1 ?side2 ?side3 ?side4 A3.out).mono ?_); (case side1 => repeat (first | exact (Kd.C_below HR0_3.out (by repeat (first | (with_reducible first | exact HB.out | apply below_alloc | apply pw_below_drewN | apply below_drew1 | refine below_set ?_ GE112.out | refine below_set ?_ GE113.out) | exact HB.out))) | (with_reducible refine Kd.C_alloc ?_ _) | (with_reducible refine Kd.C_drewN ?_ _) | (with_reducible refine Kd.C_drew ?_))); (case side2 => exact HC0_3.out); (case side3 => repeat (first | exact (Kd.C_below HR1_3.out (by repeat (first | (with_reducible first | exact HB.out | apply below_alloc | apply pw_below_drewN | apply below_drew1 | refine below_set ?_ GE112.out | refine below_set ?_ GE113.out) | exact HB.out))) | (with_reducible refine Kd.C_alloc ?_ _) | (with_reducible refine Kd.C_drewN ?_ _) | (with_reducible refine Kd.C_drew ?_))); (case side4 => exact HC1_3.out); rintro e w' ⟨rfl, ⟨nd, rfl⟩⟩))
  go_ret
  exact ⟨by first | rfl | (simp; done) | (simp [*]; done), by repeat (first | (with_reducible first | exact HB.out | apply below_alloc | apply pw_below_drewN | apply below_drew1 | refine below_set ?_ GE112.out | refine below_set ?_ GE113.out) | exact HB.out)⟩

theorem Eq5.calls (k : Nat) (A0_0 : Option Addr) (c0_0 : Nat) (l0_0 : List (List Int)) (A0_1 : Option Addr) (c0_1 : Nat) (l0_1 : List (List Int)) (A0_2 : Option Addr) (c0_2 : Nat) (l0_2 : List (S59)) (A0_3 : Option Addr) (c0_3 : Nat) (l0_3 : List Int) (A1_0 : Option Addr) (c1_0 : Nat) (l1_0 : List (List Int)) (A1_1 : Option Addr) (c1_1 : Nat) (l1_1 : List (List Int)) (A1_2 : Option Addr) (c1_2 : Nat) (l1_2 : List (S59)) (A1_3 : Option Addr) (c1_3 : Nat) (l1_3 : List Int) (r0 r1 r2 r3 : Bool) (w : World) (hr0_0 : Kd.C (Kd.slice 51 (Kd.int .i16)) w A0_0 l0_0.length l0_0) (hc0_0 : l0_0.length ≤ c0_0) (hr0_1 : Kd.C (Kd.slice 51 (Kd.int .i16)) w A0_1 l0_1.length l0_1) (hc0_1 : l0_1.length ≤ c0_1) (hr0_2 : Kd.C k59 w A0_2 l0_2.length l0_2) (hc0_2 : l0_2.length ≤ c0_2) (hr0_3 : Kd.C (Kd.int .i16) w A0_3 l0_3.length l0_3) (hc0_3 : l0_3.length ≤ c0_3) (hr1_0 : Kd.C (Kd.slice 51 (Kd.int .i16)) w A1_0 l1_0.length l1_0) (hc1_0 : l1_0.length ≤ c1_0) (hr1_1 : Kd.C (Kd.slice 51 (Kd.int .i16)) w A1_1 l1_1.length l1_1) (hc1_1 : l1_1.length ≤ c1_1) (hr1_2 : Kd.C k59 w A1_2 l1_2.length l1_2) (hc1_2 : l1_2.length ≤ c1_2) (hr1_3 : Kd.C (Kd.int .i16) w A1_3 l1_3.length l1_3) (hc1_3 : l1_3.length ≤ c1_3) (h0 : EqFunc.f k l0_0 l1_0 = some r0) (h1 : EqFunc.f k l0_1 l1_1 = some r1) (h2 : api_Output.f k l0_2 l1_2 = some r2) (h3 : slices_Equal_int16_int16.f k l0_3 l1_3 = some r3) :
    Calls Tryz.prog 5 #[.agg #[.slice A0_0 l0_0.length c0_0, .slice A0_1 l0_1.length c0_1, .slice A0_2 l0_2.length c0_2, .slice A0_3 l0_3.length c0_3], .agg #[.slice A1_0 l1_0.length c1_0, .slice A1_1 l1_1.length c1_1, .slice A1_2 l1_2.length c1_2, .slice A1_3 l1_3.length c1_3]] w fun e w' => e = .returned (.bool (r0 && (r1 && (r2 && r3)))) ∧ Below w.heap.size w w' := by
  cases r0 with
  | false => exact Eq5.calls0 k A0_0 c0_0 l0_0 A0_1 c0_1 l0_1 A0_2 c0_2 l0_2 A0_3 c0_3 l0_3 A1_0 c1_0 l1_0 A1_1 c1_1 l1_1 A1_2 c1_2 l1_2 A1_3 c1_3 l1_3 r1 r2 r3 w hr0_0 hc0_0 hr0_1 hc0_1 hr0_2 hc0_2 hr0_3 hc0_3 hr1_0 hc1_0 hr1_1 hc1_1 hr1_2 hc1_2 hr1_3 hc1_3 h0 h1 h2 h3
  | true =>
    cases r1 with
    | false => exact Eq5.calls1 k A0_0 c0_0 l0_0 A0_1 c0_1 l0_1 A0_2 c0_2 l0_2 A0_3 c0_3 l0_3 A1_0 c1_0 l1_0 A1_1 c1_1 l1_1 A1_2 c1_2 l1_2 A1_3 c1_3 l1_3 r2 r3 w hr0_0 hc0_0 hr0_1 hc0_1 hr0_2 hc0_2 hr0_3 hc0_3 hr1_0 hc1_0 hr1_1 hc1_1 hr1_2 hc1_2 hr1_3 hc1_3 h0 h1 h2 h3
    | true =>
      cases r2 with
      | false => exact Eq5.calls2 k A0_0 c0_0 l0_0 A0_1 c0_1 l0_1 A0_2 c0_2 l0_2 A0_3 c0_3 l0_3 A1_0 c1_0 l1_0 A1_1 c1_1 l1_1 A1_2 c1_2 l1_2 A1_3 c1_3 l1_3 r3 w hr0_0 hc0_0 hr0_1 hc0_1 hr0_2 hc0_2 hr0_3 hc0_3 hr1_0 hc1_0 hr1_1 hc1_1 hr1_2 hc1_2 hr1_3 hc1_3 h0 h1 h2 h3
      | true => exact Eq5.calls3 k A0_0 c0_0 l0_0 A0_1 c0_1 l0_1 A0_2 c0_2 l0_2 A0_3 c0_3 l0_3 A1_0 c1_0 l1_0 A1_1 c1_1 l1_1 A1_2 c1_2 l1_2 A1_3 c1_3 l1_3 r3 w hr0_0 hc0_0 hr0_1 hc0_1 hr0_2 hc0_2 hr0_3 hc0_3 hr1_0 hc1_0 hr1_1 hc1_1 hr1_2 hc1_2 hr1_3 hc1_3 h0 h1 h2 h3

end Go.Proofs.YtloomikigalnfaaGreatDoor.PAll
end

section
namespace Go.Proofs.YtloomikigalnfaaGreatDoor.PAll
open Go.RowKit Go.Proofs.YtloomikigalnfaaGreatDoorW.PrintWords Go.Proofs.YtloomikigalnfaaGreatDoorW.PrintLast Go.Proofs.YtloomikigalnfaaGreatDoorW.PrintMore
set_option linter.unusedVariables false
set_option linter.unusedSimpArgs false
set_option maxHeartbeats 8000000 in
set_option maxRecDepth 100000 in
theorem Conv.calls (A0_0 : Option Addr) (n0_0 c0_0 : Nat) (A0_1 : Option Addr) (n0_1 c0_1 : Nat) (A0_2 : Option Addr) (n0_2 c0_2 : Nat) (A0_3 : Option Addr) (n0_3 c0_3 : Nat) (w : World) :
    Calls Tryz.prog 7 #[.agg #[.slice A0_0 n0_0 c0_0, .slice A0_1 n0_1 c0_1, .slice A0_2 n0_2 c0_2, .slice A0_3 n0_3 c0_3]] w fun e w' => e = .returned (.agg #[.slice A0_0 n0_0 c0_0, .slice A0_1 n0_1 c0_1, .slice A0_2 n0_2 c0_2, .slice A0_3 n0_3 c0_3]) ∧ Below w.heap.size w w' := by
  have hu28 := Tryz.underlying28
  have hu24 := Tryz.underlying24
  have hu33 := Tryz.underlying33
  have HB := Aside0.mk (Below.refl w.heap.size w)
  go_enter Tryz.func7, Tryz.ntmps7
  go_wp2
  refine bodyPost_ret (v := .agg #[.slice A0_0 n0_0 c0_0, .slice A0_1 n0_1 c0_1, .slice A0_2 n0_2 c0_2, .slice A0_3 n0_3 c0_3]) ?_ rfl ⟨rfl, below_alloc (below_alloc (Below.refl _ _) _) _⟩
  have hsz : (w.alloc (.cells #[.slice A0_0 n0_0 c0_0, .slice A0_1 n0_1 c0_1, .slice A0_2 n0_2 c0_2, .slice A0_3 n0_3 c0_3] 28 (0, 0))).heap.size = w.heap.size + 1 := Array.size_push _
  exact results_cell_row Tryz.results7 _ _ (w.heap.size + 1) 33 _ (0, 0) _ rfl (by rw [← hsz]; exact heap_alloc_new _ _) hu33 rfl (by kernel_rfl)
end Go.Proofs.YtloomikigalnfaaGreatDoor.PAll
end

section
namespace Go.Proofs.YtloomikigalnfaaGreatDoor.PAll
open Go.RowKit Go.Proofs.YtloomikigalnfaaGreatDoorW.PrintWords Go.Proofs.YtloomikigalnfaaGreatDoorW.PrintLast Go.Proofs.YtloomikigalnfaaGreatDoorW.PrintMore
set_option linter.unusedVariables false
set_option linter.unusedSimpArgs false
set_option maxHeartbeats 8000000 in
set_option maxRecDepth 100000 in
theorem law3 (A0_0 : Option Addr) (c0_0 : Nat) (l0_0 : List (List Int)) (A0_1 : Option Addr) (c0_1 : Nat) (l0_1 : List (List Int)) (A0_2 : Option Addr) (c0_2 : Nat) (l0_2 : List (S59)) (A0_3 : Option Addr) (c0_3 : Nat) (l0_3 : List Int) (A1_0 : Option Addr) (c1_0 : Nat) (l1_0 : List (List Int)) (A1_1 : Option Addr) (c1_1 : Nat) (l1_1 : List (List Int)) (A1_2 : Option Addr) (c1_2 : Nat) (l1_2 : List (S59)) (A1_3 : Option Addr) (c1_3 : Nat) (l1_3 : List Int) (r : Bool) (w : World) (hr0_0 : Kd.C (Kd.slice 51 (Kd.int .i16)) w A0_0 l0_0.length l0_0) (hc0_0 : l0_0.length ≤ c0_0) (hr0_1 : Kd.C (Kd.slice 51 (Kd.int .i16)) w A0_1 l0_1.length l0_1) (hc0_1 : l0_1.length ≤ c0_1) (hr1_0 : Kd.C (Kd.slice 51 (Kd.int .i16)) w A1_0 l1_0.length l1_0) (hc1_0 : l1_0.length ≤ c1_0) (hr1_1 : Kd.C (Kd.slice 51 (Kd.int .i16)) w A1_1 l1_1.length l1_1) (hc1_1 : l1_1.length ≤ c1_1) (h5 : ∀ w1, Below w.heap.size w w1 → Calls Tryz.prog 5 #[.agg #[.slice A0_0 l0_0.length c0_0, .slice A0_1 l0_1.length c0_1, .slice A0_2 l0_2.length c0_2, .slice A0_3 l0_3.length c0_3], .agg #[.slice A1_0 l1_0.length c1_0, .slice A1_1 l1_1.length c1_1, .slice A1_2 l1_2.length c1_2, .slice A1_3 l1_3.length c1_3]] w1 fun e w' => e = .returned (.bool r) ∧ Below w1.heap.size w1 w') (h6 : ∀ w1, Below w.heap.size w w1 → Calls Tryz.prog 6 #[.agg #[.slice A0_0 l0_0.length c0_0, .slice A0_1 l0_1.length c0_1, .slice A0_2 l0_2.length c0_2, .slice A0_3 l0_3.length c0_3], .agg #[.slice A1_0 l1_0.length c1_0, .slice A1_1 l1_1.length c1_1, .slice A1_2 l1_2.length c1_2, .slice A1_3 l1_3.length c1_3]] w1 fun e w' => e = .returned (.bool r) ∧ Below w1.heap.size w1 w') (h55 : ∀ w1, Below w.heap.size w w1 → Calls Tryz.prog 5 #[.agg #[.slice A0_0 l0_0.length c0_0, .slice A0_1 l0_1.length c0_1, .slice A0_2 l0_2.length c0_2, .slice A0_3 l0_3.length c0_3], .agg #[.slice A0_0 l0_0.length c0_0, .slice A0_1 l0_1.length c0_1, .slice A0_2 l0_2.length c0_2, .slice A0_3 l0_3.length c0_3]] w1 fun e w' => e = .returned (.bool true) ∧ Below w1.heap.size w1 w') (h4 : ∀ w1, Below w.heap.size w w1 → Calls Tryz.prog 4 #[] w1 fun e w' => e = .returned (.bool true) ∧ Below w1.heap.size w1 w') :
    Calls Tryz.prog 3 #[.agg #[.slice A0_0 l0_0.length c0_0, .slice A0_1 l0_1.length c0_1, .slice A0_2 l0_2.length c0_2, .slice A0_3 l0_3.length c0_3], .agg #[.slice A1_0 l1_0.length c1_0, .slice A1_1 l1_1.length c1_1, .slice A1_2 l1_2.length c1_2, .slice A1_3 l1_3.length c1_3]] w fun e w' => e = .returned (.bool true) ∧ Below w.heap.size w w' := by
  have hu28 := Tryz.underlying28
  have hu24 := Tryz.underlying24
  have HR0_0 := Aside0.mk hr0_0
  have HC0_0 := Aside0.mk hc0_0
  clear hr0_0 hc0_0
  have HR0_1 := Aside0.mk hr0_1
  have HC0_1 := Aside0.mk hc0_1
  clear hr0_1 hc0_1
  have HR1_0 := Aside0.mk hr1_0
  have HC1_0 := Aside0.mk hc1_0
  clear hr1_0 hc1_0
  have HR1_1 := Aside0.mk hr1_1
  have HC1_1 := Aside0.mk hc1_1
  clear hr1_1 hc1_1
  have H5 := Aside0.mk h5
  clear h5
  have H6 := Aside0.mk h6
  clear h6
  have H55 := Aside0.mk h55
  clear h55
  have H4 := Aside0.mk h4
  clear h4
  have HB := Aside0.mk (Below.refl w.heap.size w)
  go_enter Tryz.func3, Tryz.ntmps3
  go_wp2_with (first | ((with_reducible refine gate_dst (N := 2) rfl ?_); refine box_event ?hg (N := 2) ?hd (cs := #[.slice A0_0 l0_0.length c0_0, .slice A0_1 l0_1.length c0_1, .slice A0_2 l0_2.length c0_2, .slice A0_3 l0_3.length c0_3]) (t := 28) ?hr ?_; (case hd => rfl); (case hg => rfl); (case hr => first | (go_simp; done) | (go_simp; rfl)); intro gb112 hg w8 hbox hb; have n0_ := Aside0.mk (below_step (by repeat (first | (with_reducible first | exact HB.out | apply below_alloc | apply pw_below_drewN | apply below_drew1) | exact HB.out)) hb); have n1_ := Aside0.mk (hbox); have n2_ := Aside0.mk ((by rw [hg]; exact (below_size (by repeat (first | (with_reducible first | exact HB.out | apply below_alloc | apply pw_below_drewN | apply below_drew1) | exact HB.out))) : w.heap.size ≤ gb112)); have n3_ := Aside0.mk ((by rw [hg]; exact (below_size (by repeat (first | (with_reducible first | exact HB.out | apply below_alloc | apply pw_below_drewN | apply below_drew1) | exact HB.out))) : w.heap.size ≤ gb112)); clear HB; have HB := n0_; have BK112 := n1_; have GW112 := n2_; have GE112 := n3_; clear n0_ n1_ n2_ n3_; clear hb hbox hg) | ((with_reducible refine gate_dst (N := 3) rfl ?_); refine box_event ?hg (N := 3) ?hd (cs := #[.slice A1_0 l1_0.length c1_0, .slice A1_1 l1_1.length c1_1, .slice A1_2 l1_2.length c1_2, .slice A1_3 l1_3.length c1_3]) (t := 28) ?hr ?_; (case hd => rfl); (case hg => rfl); (case hr => first | (go_simp; done) | (go_simp; rfl)); intro gb113 hg w9 hbox hb; have n0_ := Aside0.mk (blk_below (g := gb112) (o := .cells #[.slice A0_0 l0_0.length c0_0, .slice A0_1 l0_1.length c0_1, .slice A0_2 l0_2.length c0_2, .slice A0_3 l0_3.length c0_3] 28 (0, 0)) (by (with_reducible repeat (first | refine blk_drewN ?_ _ | refine blk_drew ?_ | refine blk_alloc ?_ _)); exact BK112.out) hb); have n1_ := Aside0.mk (below_step (by repeat (first | (with_reducible first | exact HB.out | apply below_alloc | apply pw_below_drewN | apply below_drew1 | refine below_set ?_ GE112.out) | exact HB.out)) hb); have n2_ := Aside0.mk (hbox); have n3_ := Aside0.mk ((by rw [hg]; exact (below_size (by repeat (first | (with_reducible first | exact HB.out | apply below_alloc | apply pw_below_drewN | apply below_drew1 | refine below_set ?_ GE112.out) | exact HB.out))) : w.heap.size ≤ gb113)); have n4_ := Aside0.mk ((by rw [hg]; exact (below_size (by repeat (first | (with_reducible first | exact HB.out | apply below_alloc | apply pw_below_drewN | apply below_drew1 | refine below_set ?_ GE112.out) | exact HB.out))) : w.heap.size ≤ gb113)); have n5_ := Aside0.mk ((by rw [hg]; exact Nat.ne_of_lt (blk_lt (g := gb112) (o := .cells #[.slice A0_0 l0_0.length c0_0, .slice A0_1 l0_1.length c0_1, .slice A0_2 l0_2.length c0_2, .slice A0_3 l0_3.length c0_3] 28 (0, 0)) (by (with_reducible repeat (first | refine blk_drewN ?_ _ | refine blk_drew ?_ | refine blk_alloc ?_ _)); exact BK112.out)) : gb112 ≠ gb113)); have n6_ := Aside0.mk ((by rw [hg]; exact Nat.ne_of_gt (blk_lt (g := gb112) (o := .cells #[.slice A0_0 l0_0.length c0_0, .slice A0_1 l0_1.length c0_1, .slice A0_2 l0_2.length c0_2, .slice A0_3 l0_3.length c0_3] 28 (0, 0)) (by (with_reducible repeat (first | refine blk_drewN ?_ _ | refine blk_drew ?_ | refine blk_alloc ?_ _)); exact BK112.out)) : gb113 ≠ gb112)); clear BK112; clear HB; have BK112 := n0_; have HB := n1_; have BK113 := n2_; have GW113 := n3_; have GE113 := n4_; have NB112_113 := n5_; have NB113_112 := n6_; clear n0_ n1_ n2_ n3_ n4_ n5_ n6_; clear hb hbox hg; have hnb10 := NB112_113.out; have hnc10 := NB113_112.out; have hcz11_0 : w9.cell? ⟨gb112, 0, none⟩ = some (.slice A0_0 l0_0.length c0_0) := (blk_cell BK112.out 0).trans rfl; have hcz11_1 : w9.cell? ⟨gb112, 1, none⟩ = some (.slice A0_1 l0_1.length c0_1) := (blk_cell BK112.out 1).trans rfl; have hcz11_2 : w9.cell? ⟨gb112, 2, none⟩ = some (.slice A0_2 l0_2.length c0_2) := (blk_cell BK112.out 2).trans rfl; have hcz11_3 : w9.cell? ⟨gb112, 3, none⟩ = some (.slice A0_3 l0_3.length c0_3) := (blk_cell BK112.out 3).trans rfl; have hfz11_0 := blk_frozen BK112.out 0; have hfz11_1 := blk_frozen BK112.out 1; have hfz11_2 := blk_frozen BK112.out 2; have hfz11_3 := blk_frozen BK112.out 3; have hcz12_0 : w9.cell? ⟨gb113, 0, none⟩ = some (.slice A1_0 l1_0.length c1_0) := (blk_cell BK113.out 0).trans rfl; have hcz12_1 : w9.cell? ⟨gb113, 1, none⟩ = some (.slice A1_1 l1_1.length c1_1) := (blk_cell BK113.out 1).trans rfl; have hcz12_2 : w9.cell? ⟨gb113, 2, none⟩ = some (.slice A1_2 l1_2.length c1_2) := (blk_cell BK113.out 2).trans rfl; have hcz12_3 : w9.cell? ⟨gb113, 3, none⟩ = some (.slice A1_3 l1_3.length c1_3) := (blk_cell BK113.out 3).trans rfl; have hfz12_0 := blk_frozen BK113.out 0; have hfz12_1 := blk_frozen BK113.out 1; have hfz12_2 := blk_frozen BK113.out 2; have hfz12_3 := blk_frozen BK113.out 3))
  have BKS := Aside0.mk (heap_alloc_new w9 (Obj.cells #[Value.slice A0_0 l0_0.length c0_0, Value.slice A0_1 l0_1.length c0_1, Value.slice A1_0 l1_0.length c1_0, Value.slice A1_1 l1_1.length c1_1] 22 (0, 0)))
  have HBA := Aside0.mk (below_alloc (Below.refl w9.heap.size w9) (Obj.cells #[Value.slice A0_0 l0_0.length c0_0, Value.slice A0_1 l0_1.length c0_1, Value.slice A1_0 l1_0.length c1_0, Value.slice A1_1 l1_1.length c1_1] 22 (0, 0)))
  generalize w9.alloc (Obj.cells #[Value.slice A0_0 l0_0.length c0_0, Value.slice A0_1 l0_1.length c0_1, Value.slice A1_0 l1_0.length c1_0, Value.slice A1_1 l1_1.length c1_1] 22 (0, 0)) = w10 at BKS HBA ⊢
  have N0 := Aside0.mk (blk_below BK112.out HBA.out)
  have N1 := Aside0.mk (blk_below BK113.out HBA.out)
  have N2 := Aside0.mk (below_step HB.out HBA.out)
  clear HBA
  generalize w9.heap.size = gs at BKS ⊢
  clear hcz11_0 hcz11_1 hcz11_2 hcz11_3 hfz11_0 hfz11_1 hfz11_2 hfz11_3 hcz12_0 hcz12_1 hcz12_2 hcz12_3 hfz12_0 hfz12_1 hfz12_2 hfz12_3
  go_loopg [5, 39] 4 (fun kq v5 v39 w' => ∃ (n i : Int), v5 = .int .i64 n ∧ v39 = .int .i64 i ∧ Aside0 (0 ≤ i ∧ i + kq = 4) ∧ w' = w10)
  case atStart => exact ⟨_, 0, rfl, rfl, ⟨by omega⟩, rfl⟩
  case round =>
    obtain ⟨n, i, rfl, rfl, HI, rfl⟩ := hrel
    have HR00 := Aside0.mk (Kd.C_below HR0_0.out N2.out)
    have HR01 := Aside0.mk (Kd.C_below HR0_1.out N2.out)
    have HR10 := Aside0.mk (Kd.C_below HR1_0.out N2.out)
    have HR11 := Aside0.mk (Kd.C_below HR1_1.out N2.out)
    cases gk with
    | zero =>
      have hi : i = 4 := by have := HI.out; omega
      subst hi
      by_cases hn : 300 < n
      · have hn1 : decide (300 < n) = true := decide_eq_true hn
        clear hn
        go_wp2_with (first | (go_at_call 4; refine (H4.out _ ?side1).mono ?_; (case side1 => exact N2.out); rintro e w' ⟨rfl, hb⟩; have N3 := Aside0.mk (below_step N2.out hb)))
        go_ret
        exact ⟨rfl, N3.out⟩
      · have hn1 : decide (300 < n) = false := decide_eq_false hn
        clear hn
        have M0 : Aside0 (wr.drew.heap[gb112]? = some (.cells #[.slice A0_0 l0_0.length c0_0, .slice A0_1 l0_1.length c0_1, .slice A0_2 l0_2.length c0_2, .slice A0_3 l0_3.length c0_3] 28 (0, 0))) := ⟨N0.out⟩
        have M1 : Aside0 (wr.drew.heap[gb113]? = some (.cells #[.slice A1_0 l1_0.length c1_0, .slice A1_1 l1_1.length c1_1, .slice A1_2 l1_2.length c1_2, .slice A1_3 l1_3.length c1_3] 28 (0, 0))) := ⟨N1.out⟩
        have NB : Aside0 (Below w.heap.size w wr.drew) := ⟨below_drew1 N2.out⟩
        clear N0 N1 N2 HR00 HR01 HR10 HR11 BKS HB
        go_wp2
        go_region_held3 (fun w' => w'.cell? ⟨gb112, 0, none⟩ = some (.slice A0_0 l0_0.length c0_0) ∧ w'.cell? ⟨gb112, 1, none⟩ = some (.slice A0_1 l0_1.length c0_1) ∧ w'.cell? ⟨gb112, 2, none⟩ = some (.slice A0_2 l0_2.length c0_2) ∧ w'.cell? ⟨gb112, 3, none⟩ = some (.slice A0_3 l0_3.length c0_3) ∧ w'.cell? ⟨gb113, 0, none⟩ = some (.slice A1_0 l1_0.length c1_0) ∧ w'.cell? ⟨gb113, 1, none⟩ = some (.slice A1_1 l1_1.length c1_1) ∧ w'.cell? ⟨gb113, 2, none⟩ = some (.slice A1_2 l1_2.length c1_2) ∧ w'.cell? ⟨gb113, 3, none⟩ = some (.slice A1_3 l1_3.length c1_3) ∧ Below w.heap.size w w') (exact ⟨(blk_cell M0.out 0).trans rfl, (blk_cell M0.out 1).trans rfl, (blk_cell M0.out 2).trans rfl, (blk_cell M0.out 3).trans rfl, (blk_cell M1.out 0).trans rfl, (blk_cell M1.out 1).trans rfl, (blk_cell M1.out 2).trans rfl, (blk_cell M1.out 3).trans rfl, NB.out⟩)
          (first
            | (go_at_call 5; (with_reducible refine (H5.out _ NB.out).mono ?_); rintro e w' ⟨rfl, hb⟩; have n0_ := Aside0.mk (blk_below M0.out hb); have n1_ := Aside0.mk (blk_below M1.out hb); have n2_ := Aside0.mk (below_step NB.out hb); clear M0 M1 NB; have M0 := n0_; have M1 := n1_; have NB := n2_; clear n0_ n1_ n2_ hb)
            | (go_at_call 5; (with_reducible refine (H55.out _ NB.out).mono ?_); rintro e w' ⟨rfl, hb⟩; have n0_ := Aside0.mk (blk_below M0.out hb); have n1_ := Aside0.mk (blk_below M1.out hb); have n2_ := Aside0.mk (below_step NB.out hb); clear M0 M1 NB; have M0 := n0_; have M1 := n1_; have NB := n2_; clear n0_ n1_ n2_ hb)
            | (go_at_call 7; (with_reducible refine (Conv.calls A0_0 l0_0.length c0_0 A0_1 l0_1.length c0_1 A0_2 l0_2.length c0_2 A0_3 l0_3.length c0_3 _).mono ?_); rintro e w' ⟨rfl, hb⟩; have n0_ := Aside0.mk (blk_below M0.out hb); have n1_ := Aside0.mk (blk_below M1.out hb); have n2_ := Aside0.mk (below_step NB.out hb); clear M0 M1 NB; have M0 := n0_; have M1 := n1_; have NB := n2_; clear n0_ n1_ n2_ hb)
            | (go_at_call 7; (with_reducible refine (Conv.calls A1_0 l1_0.length c1_0 A1_1 l1_1.length c1_1 A1_2 l1_2.length c1_2 A1_3 l1_3.length c1_3 _).mono ?_); rintro e w' ⟨rfl, hb⟩; have n0_ := Aside0.mk (blk_below M0.out hb); have n1_ := Aside0.mk (blk_below M1.out hb); have n2_ := Aside0.mk (below_step NB.out hb); clear M0 M1 NB; have M0 := n0_; have M1 := n1_; have NB := n2_; clear n0_ n1_ n2_ hb)
            | (go_at_call 6; (with_reducible refine (H6.out _ NB.out).mono ?_); rintro e w' ⟨rfl, hb⟩; have n0_ := Aside0.mk (blk_below M0.out hb); have n1_ := Aside0.mk (blk_below M1.out hb); have n2_ := Aside0.mk (below_step NB.out hb); clear M0 M1 NB; have M0 := n0_; have M1 := n1_; have NB := n2_; clear n0_ n1_ n2_ hb)
            | (go_at_call 4; (with_reducible refine (H4.out _ NB.out).mono ?_); rintro e w' ⟨rfl, hb⟩; have n0_ := Aside0.mk (blk_below M0.out hb); have n1_ := Aside0.mk (blk_below M1.out hb); have n2_ := Aside0.mk (below_step NB.out hb); clear M0 M1 NB; have M0 := n0_; have M1 := n1_; have NB := n2_; clear n0_ n1_ n2_ hb))
        go_wp2
        go_ret
        exact ⟨rfl, NB.out⟩
    | succ k1 =>
      have i0 : 0 ≤ i := HI.out.1
      have i4 : i < 4 := by have := HI.out; omega
      obtain ⟨A, c, l, hcell, hlc, hC⟩ : ∃ (A : Option Addr) (c : Nat) (l : List (List Int)), wr.cell? ⟨gs, i.toNat, none⟩ = some (.slice A l.length c) ∧ l.length ≤ c ∧ Kd.C (Kd.slice 51 (Kd.int .i16)) wr A l.length l := by
        have hi : i = 0 ∨ i = 1 ∨ i = 2 ∨ i = 3 := by omega
        rcases hi with rfl | rfl | rfl | rfl
        · exact ⟨_, _, l0_0, (blk_cell BKS.out 0).trans rfl, HC0_0.out, HR00.out⟩
        · exact ⟨_, _, l0_1, (blk_cell BKS.out 1).trans rfl, HC0_1.out, HR01.out⟩
        · exact ⟨_, _, l1_0, (blk_cell BKS.out 2).trans rfl, HC1_0.out, HR10.out⟩
        · exact ⟨_, _, l1_1, (blk_cell BKS.out 3).trans rfl, HC1_1.out, HR11.out⟩
      have HCl := Aside0.mk hC
      have HLl := Aside0.mk hlc
      clear hC hlc
      have c4b0 : decide (i < 4) = true := decide_eq_true i4
      have c5b0 : decide (0 ≤ i) = true := decide_eq_true i0
      replace i0 := eq_true i0
      replace i4 := eq_true i4
      go_wp2
      go_loopg [5, 49] l.length (fun kq v5 v49 w' => ∃ (n j : Int), v5 = .int .i64 n ∧ v49 = .int .i64 j ∧ Aside0 (0 ≤ j ∧ j + kq = l.length) ∧ w' = wr)
      case atStart => exact ⟨_, 0, rfl, rfl, ⟨by omega⟩, rfl⟩
      case round =>
        obtain ⟨n1, j, rfl, rfl, HJ, rfl⟩ := hrel
        cases gk with
        | zero =>
          have hj : j = l.length := by have := HJ.out; omega
          subst hj
          have c6b0 : decide ((l.length : Int) < (l.length : Int)) = false := decide_eq_false (by omega)
          go_wp2
          go_roundg k1
          case measure => omega
          case rel =>
            refine ⟨_, wrap64 (i + 1), rfl, rfl, ⟨?_⟩, rfl⟩
            have := HI.out
            unfold wrap64
            omega
        | succ k2 =>
          have j0 : 0 ≤ j := HJ.out.1
          have j4 : j < (l.length : Int) := by have := HJ.out; omega
          obtain ⟨ad, A1, c1, e1, hx1, hl1, hi1⟩ := at_L1 HCl.out j j0 j4
          cases e1
          have d4b0 : decide (j < (l.length : Int)) = true := decide_eq_true j4
          have d5b0 : decide (0 ≤ j) = true := decide_eq_true j0
          replace j0 := eq_true j0
          replace j4 := eq_true j4
          go_wp2
          go_roundg k2
          case measure => omega
          case rel =>
            refine ⟨_, wrap64 (j + 1), rfl, rfl, ⟨?_⟩, rfl⟩
            have hj := HJ.out
            have hm : l.length ≤ 9223372036854775807 := HCl.out.2.1
            unfold wrap64
            omega

end Go.Proofs.YtloomikigalnfaaGreatDoor.PAll
end

section
namespace Go.Proofs.YtloomikigalnfaaGreatDoor.PAll
open Go.RowKit Go.Proofs.YtloomikigalnfaaGreatDoorW.PrintWords Go.Proofs.YtloomikigalnfaaGreatDoorW.PrintLast Go.Proofs.YtloomikigalnfaaGreatDoorW.PrintMore

theorem drop_iff {α : Type} {l0 l1 : List α} {i : Nat} (h0 : i < l0.length) (h1 : i < l1.length) : l0.drop i = l1.drop i ↔ l0[i] = l1[i] ∧ l0.drop (i + 1) = l1.drop (i + 1) := by
  rw [List.drop_eq_getElem_cons h0, List.drop_eq_getElem_cons h1, List.cons.injEq]

/-- A loop that compares element for element answers whether the rest is equal. -/
theorem loop_eq {α : Type} [DecidableEq α] (L : Nat → List α → List α → Int → Int → Option Bool) (d : α) (l0 l1 : List α) (M : Nat) (hlen : l0.length = l1.length) (hmax : l0.length ≤ 9223372036854775807)
    (hend : ∀ k, L (k + 1) l0 l1 (l0.length : Int) (l0.length : Int) = some true)
    (hstep : ∀ k i, M < k → i < l0.length → L (k + 1) l0 l1 (l0.length : Int) (i : Int) = if l0.getD i d = l1.getD i d then L k l0 l1 (l0.length : Int) (wrap64 ((i : Int) + 1)) else some false) :
    ∀ (n k i : Nat), i + n = l0.length → n + M < k → L k l0 l1 (l0.length : Int) (i : Int) = some (decide (l0.drop i = l1.drop i))
  | 0, k, i, hi, hk => by
    obtain ⟨k, rfl⟩ : ∃ m, k = m + 1 := ⟨k - 1, by omega⟩
    obtain rfl : i = l0.length := by omega
    rw [hend, List.drop_eq_nil_of_le (Nat.le_refl _), List.drop_eq_nil_of_le (by omega)]
    rfl
  | n + 1, k, i, hi, hk => by
    obtain ⟨k, rfl⟩ : ∃ m, k = m + 1 := ⟨k - 1, by omega⟩
    have h0 : i < l0.length := by omega
    have h1 : i < l1.length := by omega
    rw [hstep k i (by omega) h0]
    have e0 : l0.getD i d = l0[i] := by rw [List.getD_eq_getElem?_getD, List.getElem?_eq_getElem h0]; rfl
    have e1 : l1.getD i d = l1[i] := by rw [List.getD_eq_getElem?_getD, List.getElem?_eq_getElem h1]; rfl
    rw [e0, e1]
    have hw : wrap64 ((i : Int) + 1) = ((i + 1 : Nat) : Int) := by unfold wrap64; omega
    rw [hw, loop_eq L d l0 l1 M hlen hmax hend hstep n k (i + 1) (by omega) (by omega)]
    have hd := drop_iff h0 h1
    by_cases h : l0[i] = l1[i]
    · rw [if_pos h]
      congr 1
      exact decide_eq_decide.2 ⟨fun q => hd.2 ⟨h, q⟩, fun q => (hd.1 q).2⟩
    · rw [if_neg h]
      congr 1
      exact (decide_eq_false fun q => h (hd.1 q).1).symm

theorem f_of_loop {α : Type} [DecidableEq α] (L : Nat → List α → List α → Int → Int → Option Bool) (d : α) (k M : Nat) (l0 l1 : List α) (hmax : l0.length ≤ 9223372036854775807) (hk : l0.length + M < k)
    (hend : ∀ k, L (k + 1) l0 l1 (l0.length : Int) (l0.length : Int) = some true)
    (hstep : l0.length = l1.length → ∀ k i, M < k → i < l0.length → L (k + 1) l0 l1 (l0.length : Int) (i : Int) = if l0.getD i d = l1.getD i d then L k l0 l1 (l0.length : Int) (wrap64 ((i : Int) + 1)) else some false) :
    (if (l0.length : Int) = (l1.length : Int) then L k l0 l1 (l0.length : Int) 0 else some false) = some (decide (l0 = l1)) := by
  by_cases hl : l0.length = l1.length
  · rw [if_pos (by omega)]
    exact loop_eq L d l0 l1 M hl hmax hend (hstep hl) l0.length k 0 (by omega) hk
  · rw [if_neg (by omega)]
    congr 1
    exact (decide_eq_false fun h => hl (by rw [h])).symm

theorem rd_nat (xs : List Int) (i : Nat) : rd xs (i : Int) = xs.getD i 0 := rfl
theorem rd_L1_nat (xs : List (List Int)) (i : Nat) : rd_L1 xs (i : Int) = xs.getD i [] := rfl
theorem rd_T59_nat (xs : List S59) (i : Nat) : rd_T59 xs (i : Int) = xs.getD i z59 := rfl
instance : DecidableEq S59 := fun a b => match a, b with
  | ⟨a0, a1⟩, ⟨b0, b1⟩ => if h : a0 = b0 ∧ a1 = b1 then isTrue (by rw [h.1, h.2]) else isFalse (fun q => h (by cases q; exact ⟨rfl, rfl⟩))
theorem same_f (k : Nat) (l0 l1 : List Int) (h0 : l0.length ≤ 9223372036854775807) (hk : l0.length < k) : trickleref12_Same.f k l0 l1 = some (decide (l0 = l1)) := by
  unfold trickleref12_Same.f
  refine f_of_loop trickleref12_Same.l0 0 k 0 l0 l1 h0 (by omega) (fun k => ?_) (fun hl k i _ hi => ?_)
  · simp only [trickleref12_Same.l0]
    rw [if_neg (by omega)]
  · simp only [trickleref12_Same.l0]
    rw [if_pos (by omega), if_pos (by omega), if_pos (by omega), if_pos (by omega), rd_nat, rd_nat]
theorem sl_f (k : Nat) (l0 l1 : List Int) (h0 : l0.length ≤ 9223372036854775807) (hk : l0.length < k) : slices_Equal_int16_int16.f k l0 l1 = some (decide (l0 = l1)) := by
  unfold slices_Equal_int16_int16.f
  refine f_of_loop slices_Equal_int16_int16.l0 0 k 0 l0 l1 h0 (by omega) (fun k => ?_) (fun hl k i _ hi => ?_)
  · simp only [slices_Equal_int16_int16.l0]
    rw [if_neg (by omega)]
  · simp only [slices_Equal_int16_int16.l0]
    rw [if_pos (by omega), if_pos (by omega), if_pos (by omega), if_pos (by omega), rd_nat, rd_nat]
theorem outs_f (k : Nat) (l0 l1 : List S59) (h0 : l0.length ≤ 9223372036854775807) (hk : l0.length < k) : trickleref42_SameOutputs.f k l0 l1 = some (decide (l0 = l1)) := by
  unfold trickleref42_SameOutputs.f
  refine f_of_loop trickleref42_SameOutputs.l0 z59 k 0 l0 l1 h0 (by omega) (fun k => ?_) (fun hl k i _ hi => ?_)
  · simp only [trickleref42_SameOutputs.l0]
    rw [if_neg (by omega)]
  · simp only [trickleref42_SameOutputs.l0]
    rw [if_pos (by omega), if_pos (by omega), if_pos (by omega), if_pos (by omega), rd_T59_nat, rd_T59_nat]
    by_cases h : l0.getD i z59 = l1.getD i z59
    · rw [if_pos h, if_neg (by rw [h]; simp)]
    · rw [if_neg h, if_pos (by
        cases ha : l0.getD i z59 with
        | mk a0 a1 =>
          cases hb : l1.getD i z59 with
          | mk b0 b1 =>
            rw [ha, hb] at h
            by_cases h0 : a0 = b0
            · have h1 : a1 ≠ b1 := fun q => h (by rw [h0, q])
              simp [h1]
            · simp [h0])]
theorem apo_f (k : Nat) (l0 l1 : List S59) (h0 : l0.length ≤ 9223372036854775807) (hk : l0.length < k) : api_Output.f k l0 l1 = some (decide (l0 = l1)) := by
  unfold api_Output.f
  refine f_of_loop api_Output.l0 z59 k 0 l0 l1 h0 (by omega) (fun k => ?_) (fun hl k i _ hi => ?_)
  · simp only [api_Output.l0]
    rw [if_neg (by omega)]
  · simp only [api_Output.l0]
    rw [if_pos (by omega), if_pos (by omega), if_pos (by omega), if_pos (by omega), rd_T59_nat, rd_T59_nat]
    by_cases h : l0.getD i z59 = l1.getD i z59
    · rw [if_pos h, if_neg (by rw [h]; simp)]
    · rw [if_neg h, if_pos (by
        cases ha : l0.getD i z59 with
        | mk a0 a1 =>
          cases hb : l1.getD i z59 with
          | mk b0 b1 =>
            rw [ha, hb] at h
            by_cases h0 : a0 = b0
            · have h1 : a1 ≠ b1 := fun q => h (by rw [h0, q])
              simp [h1]
            · simp [h0])]
theorem lists_f (k M : Nat) (l0 l1 : List (List Int)) (h0 : l0.length ≤ 9223372036854775807) (hM : M ≤ 9223372036854775807) (hin : ∀ x, x ∈ l0 → x.length ≤ M) (hk : l0.length + M < k) : trickleref42_Lists.f k l0 l1 = some (decide (l0 = l1)) := by
  unfold trickleref42_Lists.f
  refine f_of_loop trickleref42_Lists.l0 [] k M l0 l1 h0 hk (fun k => ?_) (fun hl k i hMk hi => ?_)
  · simp only [trickleref42_Lists.l0]
    rw [if_neg (by omega)]
  · simp only [trickleref42_Lists.l0]
    have hx : (l0.getD i []).length ≤ M := by
      rw [List.getD_eq_getElem?_getD, List.getElem?_eq_getElem hi]
      exact hin _ (List.getElem_mem hi)
    rw [if_pos (by omega), if_pos (by omega), if_pos (by omega), if_pos (by omega), rd_L1_nat, rd_L1_nat, same_f k _ _ (by omega) (by omega)]
    by_cases h : l0.getD i [] = l1.getD i []
    · simp [h]
    · simp [h]
theorem eqf_f (k M : Nat) (l0 l1 : List (List Int)) (h0 : l0.length ≤ 9223372036854775807) (hM : M ≤ 9223372036854775807) (hin : ∀ x, x ∈ l0 → x.length ≤ M) (hk : l0.length + M < k) : EqFunc.f k l0 l1 = some (decide (l0 = l1)) := by
  unfold EqFunc.f
  refine f_of_loop EqFunc.l0 [] k M l0 l1 h0 hk (fun k => ?_) (fun hl k i hMk hi => ?_)
  · simp only [EqFunc.l0]
    rw [if_neg (by omega)]
  · simp only [EqFunc.l0]
    have hx : (l0.getD i []).length ≤ M := by
      rw [List.getD_eq_getElem?_getD, List.getElem?_eq_getElem hi]
      exact hin _ (List.getElem_mem hi)
    rw [if_pos (by omega), if_pos (by omega), if_pos (by omega), if_pos (by omega), rd_L1_nat, rd_L1_nat, sl_f k _ _ (by omega) (by omega)]
    by_cases h : l0.getD i [] = l1.getD i []
    · simp [h]
    · simp [h]

/-- Whether two outcomes are equal, part for part. -/
def partsEq (a0 a1 : List (List Int)) (a2 : List S59) (a3 : List Int) (b0 b1 : List (List Int)) (b2 : List S59) (b3 : List Int) : Bool :=
  decide (a0 = b0) && (decide (a1 = b1) && (decide (a2 = b2) && decide (a3 = b3)))
theorem partsEq_refl (a0 a1 : List (List Int)) (a2 : List S59) (a3 : List Int) : partsEq a0 a1 a2 a3 a0 a1 a2 a3 = true := by simp [partsEq]
theorem ref_f (k M : Nat) (hM : M ≤ 9223372036854775807) (a0 a1 : List (List Int)) (a2 : List S59) (a3 : List Int) (b0 b1 : List (List Int)) (b2 : List S59) (b3 : List Int)
    (h0 : a0.length ≤ 9223372036854775807) (h1 : a1.length ≤ 9223372036854775807) (h2 : a2.length ≤ 9223372036854775807) (h3 : a3.length ≤ 9223372036854775807)
    (g0 : ∀ x, x ∈ a0 → x.length ≤ M) (g1 : ∀ x, x ∈ a1 → x.length ≤ M) (hk : 9223372036854775807 + M < k) :
    trickleref54_Equal.f k a0 a1 a2 a3 b0 b1 b2 b3 = some (partsEq a0 a1 a2 a3 b0 b1 b2 b3) := by
  unfold trickleref54_Equal.f trickleref42_SameState.f
  rw [lists_f k M a0 b0 h0 hM g0 (by omega), lists_f k M a1 b1 h1 hM g1 (by omega), outs_f k a2 b2 h2 (by omega), same_f k a3 b3 h3 (by omega)]
  unfold partsEq
  by_cases e0 : a0 = b0 <;> by_cases e1 : a1 = b1 <;> by_cases e2 : a2 = b2 <;> by_cases e3 : a3 = b3 <;> simp [e0, e1, e2, e3]
end Go.Proofs.YtloomikigalnfaaGreatDoor.PAll
end

section
namespace Go.Proofs.YtloomikigalnfaaGreatDoor.PAll
open Go.RowKit Go.ChangeShapes Go.WideShapes Go.Proofs.YtloomikigalnfaaGreatDoorW.PrintWords Go.Proofs.YtloomikigalnfaaGreatDoorW.PrintLast Go.Proofs.YtloomikigalnfaaGreatDoorW.PrintMore

section
variable {H : Type} {enc : TypeId × Value → H} {P : Program} {w : World} {base : Nat} {sp : Nat → Bool} {held : Bool}

/-- A slice that reads, whose elements each are something, is a row of such things. -/
theorem C_of_trod {α : Type} (d : Kd α) {t e : TypeId} (ht : P.underlying t = some (.slice e)) (hce : P.cellsOf e = d.sz)
    (hel : ∀ n cs x, DataW.trod enc P w base sp held n e cs = some x → ∃ y : α, d.K w y cs) {fuel : Nat} {cs : List Value} {x : DataW H × List MemPlace} (h : DataW.trod enc P w base sp held fuel t cs = some x) :
    ∃ (A : Option Addr) (c : Nat) (l : List α), cs = [.slice A l.length c] ∧ l.length ≤ c ∧ Kd.C d w A l.length l := by
  rcases DataW.trod_slice ht h with ⟨rfl, _⟩ | ⟨a, len, cap, elems, rest, n, _, rfl, _, _, hlc, hcm, hen, hall, _⟩
  · exact ⟨none, 0, [], rfl, Nat.le_refl _, rfl, by simp, fun h => absurd h (Nat.lt_irrefl _)⟩
  · have hex : ∀ i : Fin len, ∃ y : α, ∃ c, w.cells? base (a.add (i.1 * d.sz)) d.sz = some c ∧ d.K w y c := by
      intro i
      have h1 := hall i.1 i.2
      rw [hce] at h1
      have hi : i.1 < elems.length := by rw [hen]; exact i.2
      rw [List.getElem?_eq_getElem hi] at h1
      obtain ⟨c, hc, hx⟩ := Option.bind_eq_some_iff.1 h1
      obtain ⟨y, hy⟩ := hel n c _ hx
      exact ⟨y, c, hc, hy⟩
    refine ⟨some a, cap, List.ofFn fun i : Fin len => Classical.choose (hex i), by simp, by simpa using hlc, by simp, ?_, fun _ => ⟨a, rfl, fun j p hp => ?_⟩⟩
    · have : cap ≤ 2 ^ 63 - 1 := hcm
      simp
      omega
    · have hj : j < len := by
        have := (List.getElem?_eq_some_iff.1 hp).1
        simpa using this
      have hp' : Classical.choose (hex ⟨j, hj⟩) = p := by simpa [List.getElem?_ofFn, hj] using hp
      obtain ⟨c, hc, hy⟩ := Classical.choose_spec (hex ⟨j, hj⟩)
      rw [hp'] at hy
      obtain ⟨_, hlen, hcell⟩ := World.cells?_some hc
      refine ⟨c, hlen, hy, fun i u hu => ?_⟩
      have hi : i < d.sz := by rw [← hlen]; exact (List.getElem?_eq_some_iff.1 hu).1
      rw [← Addr.add_add]
      exact (hcell i hi).trans hu
end

section
variable {H : Type} {enc : TypeId × Value → H} {w : World} {base : Nat} {sp : Nat → Bool} {held : Bool}
theorem cells51 : Tryz.prog.cellsOf 51 = 1 := by kernel_rfl
theorem cells26 : Tryz.prog.cellsOf 26 = 1 := by kernel_rfl
theorem cells25 : Tryz.prog.cellsOf 25 = 1 := by kernel_rfl
theorem cells24 : Tryz.prog.cellsOf 24 = 2 := by kernel_rfl
theorem cells22 : Tryz.prog.cellsOf 22 = 1 := by kernel_rfl
theorem cells28 : Tryz.prog.cellsOf 28 = 4 := by kernel_rfl
theorem cells59 : Tryz.prog.cellsOf 59 = 2 := by kernel_rfl
theorem cells3 : Tryz.prog.cellsOf 3 = 1 := by kernel_rfl

theorem sz51 : Tryz.prog.cellsOf 51 = (Kd.int .i16).sz := by rw [cells51]; rfl
theorem sz59 : Tryz.prog.cellsOf 59 = k59.sz := by rw [cells59]; rfl
theorem sz26 : Tryz.prog.cellsOf 26 = (Kd.slice 51 (Kd.int .i16)).sz := by rw [cells26]; rfl

theorem el51 (n : Nat) (cs : List Value) (x : DataW H × List MemPlace) (h : DataW.trod enc Tryz.prog w base sp held n 51 cs = some x) : ∃ y : Int, (Kd.int .i16).K w y cs := by
  obtain ⟨z, rfl, _⟩ := DataW.trod_int Tryz.underlying51 h
  exact ⟨z, rfl⟩
set_option maxRecDepth 100000 in
theorem el59 (n : Nat) (cs : List Value) (x : DataW H × List MemPlace) (h : DataW.trod enc Tryz.prog w base sp held n 59 cs = some x) : ∃ y : S59, k59.K w y cs := by
  obtain ⟨y0, y1, m, _, hl, h0, h1⟩ := trod_struct2 Tryz.underlying59 h
  rw [cells59] at hl
  simp only [cells3, cells51, List.drop_zero] at h0 h1
  obtain ⟨z0, e0, _⟩ := DataW.trod_int Tryz.underlying3 h0
  obtain ⟨z1, e1, _⟩ := DataW.trod_int Tryz.underlying51 h1
  match cs, hl with
  | [c0, c1], _ =>
    simp at e0 e1
    subst e0; subst e1
    exact ⟨⟨z0, z1⟩, k59_mk w ⟨z0, z1⟩⟩
set_option maxRecDepth 100000 in
theorem el26 (n : Nat) (cs : List Value) (x : DataW H × List MemPlace) (h : DataW.trod enc Tryz.prog w base sp held n 26 cs = some x) : ∃ y : List Int, (Kd.slice 51 (Kd.int .i16)).K w y cs := by
  obtain ⟨A, c, l, rfl, hl, hC⟩ := C_of_trod (Kd.int .i16) Tryz.underlying26 sz51 el51 h
  exact ⟨l, A, c, rfl, hl, hC⟩

set_option maxRecDepth 100000 in
theorem open28 {r : Reach} {b0 : Nat} {v : Value} {d : DataW H} {ps : List MemPlace} (hval : Value.okWide Tryz.prog w r b0 28 v) (hd : DataW.Trod enc Tryz.prog w base sp held 28 v d ps) :
    ∃ (A0 : Option Addr) (c0 : Nat) (l0 : List (List Int)) (A1 : Option Addr) (c1 : Nat) (l1 : List (List Int)) (A2 : Option Addr) (c2 : Nat) (l2 : List S59) (A3 : Option Addr) (c3 : Nat) (l3 : List Int),
      v = .agg #[.slice A0 l0.length c0, .slice A1 l1.length c1, .slice A2 l2.length c2, .slice A3 l3.length c3] ∧
      (Kd.C (Kd.slice 51 (Kd.int .i16)) w A0 l0.length l0 ∧ l0.length ≤ c0) ∧ (Kd.C (Kd.slice 51 (Kd.int .i16)) w A1 l1.length l1 ∧ l1.length ≤ c1) ∧
      (Kd.C k59 w A2 l2.length l2 ∧ l2.length ≤ c2) ∧ (Kd.C (Kd.int .i16) w A3 l3.length l3 ∧ l3.length ≤ c3) := by
  obtain ⟨⟨cs⟩, rfl, hsz⟩ := okWide_struct Tryz.underlying28 hval
  obtain ⟨fuel, h⟩ := hd
  rw [cells28] at hsz
  have h' : DataW.trod enc Tryz.prog w base sp held fuel 28 cs = some (d, ps) := h
  obtain ⟨y0, y1, y2, m, _, _, h0, h1, h2⟩ := Go.Deep.trod_struct3 Tryz.underlying28 h'
  simp only [cells24, cells25, cells26, List.drop_zero] at h0 h1 h2
  obtain ⟨z0, z1, m', _, _, g0, g1⟩ := trod_struct2 Tryz.underlying24 h0
  simp only [cells22, List.drop_zero] at g0 g1
  obtain ⟨A0, c0, l0, e0, n0, C0⟩ := C_of_trod (Kd.slice 51 (Kd.int .i16)) Tryz.underlying22 sz26 el26 g0
  obtain ⟨A1, c1, l1, e1, n1, C1⟩ := C_of_trod (Kd.slice 51 (Kd.int .i16)) Tryz.underlying22 sz26 el26 g1
  obtain ⟨A2, c2, l2, e2, n2, C2⟩ := C_of_trod k59 Tryz.underlying25 sz59 el59 h1
  obtain ⟨A3, c3, l3, e3, n3, C3⟩ := C_of_trod (Kd.int .i16) Tryz.underlying26 sz51 el51 h2
  match cs, hsz with
  | [v0, v1, v2, v3], _ =>
    simp at e0 e1 e2 e3
    subst e0; subst e1; subst e2; subst e3
    exact ⟨A0, c0, l0, A1, c1, l1, A2, c2, l2, A3, c3, l3, rfl, ⟨C0, n0⟩, ⟨C1, n1⟩, ⟨C2, n2⟩, ⟨C3, n3⟩⟩
end

/-- The inner rows of a row of rows are no longer than any slice may be. -/
theorem inner_le {w : World} {A : Option Addr} {l : List (List Int)} (h : Kd.C (Kd.slice 51 (Kd.int .i16)) w A l.length l) : ∀ x, x ∈ l → x.length ≤ 9223372036854775807 := by
  intro x hx
  obtain ⟨j, hj, rfl⟩ := List.mem_iff_getElem.1 hx
  obtain ⟨ad, _, hc⟩ := h.2.2 (by omega)
  obtain ⟨c, _, ⟨A', c', _, _, hC⟩, _⟩ := hc j l[j] (List.getElem?_eq_getElem hj)
  exact hC.2.1
end Go.Proofs.YtloomikigalnfaaGreatDoor.PAll
end

section
namespace Go.Proofs.YtloomikigalnfaaGreatDoor.PAll
open Go.RowKit Go.ChangeShapes Go.WideShapes

theorem mapM_stay {α β : Type} {f g : α → Option β} : ∀ {l : List α} {r : List β}, l.mapM f = some r → (∀ a y, a ∈ l → y ∈ r → f a = some y → g a = some y) → l.mapM g = some r
  | [], r, h, _ => by simpa using h
  | x :: l, r, h, hg => by
    simp only [List.mapM_cons, Option.bind_eq_bind, Option.bind_eq_some_iff, Option.pure_def, Option.some.injEq] at h
    obtain ⟨b, hb, r', hr', rfl⟩ := h
    have h1 := hg x b (by simp) (by simp) hb
    have h2 := mapM_stay hr' fun a y ha hy => hg a y (by simp [ha]) (by simp [hy])
    simp [List.mapM_cons, h1, h2]

section
variable {H : Type} {enc : TypeId × Value → H} {P : Program} {w w' : World} {sp : Nat → Bool}
/-- A type whose values read alike in both worlds. -/
def Stays (enc : TypeId × Value → H) (P : Program) (w w' : World) (sp : Nat → Bool) (t : TypeId) : Prop :=
  ∀ n cs x, DataW.trod enc P w 0 (fun _ => true) true n t cs = some x → (∀ p, p ∈ x.2 → sp p.block = true) → DataW.trod enc P w' 0 sp true n t cs = some x

theorem cells_stay (hb : Below w.heap.size w w') {a : Addr} {n : Nat} {cs : List Value} (h : w.cells? 0 a n = some cs) : w'.cells? 0 a n = some cs := by
  obtain ⟨h1, h2, h3⟩ := World.cells?_some h
  refine World.cells?_of_each h1 h2 fun i hi => ?_
  have hc := h3 i hi
  have hi' : i < cs.length := by rw [h2]; exact hi
  rw [List.getElem?_eq_getElem hi'] at hc ⊢
  exact Go.Proofs.YtloomikigalnfaaGreatDoorW.PrintWords.pw_cell_below hb hc

theorem stays_int {t : TypeId} {k : IntKind} (ht : P.underlying t = some (.int k)) : Stays enc P w w' sp t := by
  intro n cs x h _
  obtain ⟨z, rfl, rfl, hw⟩ := DataW.trod_int ht h
  cases n with
  | zero => simp [DataW.trod] at h
  | succ n => simp [DataW.trod, ht, hw]

theorem stays_slice (hb : Below w.heap.size w w') {t e : TypeId} (ht : P.underlying t = some (.slice e)) (hc : 0 < P.cellsOf e) (he : Stays enc P w w' sp e) : Stays enc P w w' sp t := by
  intro fuel cs x h hp
  rcases DataW.trod_slice ht h with ⟨rfl, rfl⟩ | ⟨a, len, cap, elems, rest, n, rfl, rfl, rfl, hba, hlc, hcm, hen, hall, hrest, _⟩
  · cases fuel with
    | zero => simp [DataW.trod] at h
    | succ n => simp [DataW.trod, ht]
  · simp only [DataW.trod, ht] at h ⊢
    rw [if_pos ⟨hba, hlc, hcm⟩] at h ⊢
    simp only [Option.bind_eq_some_iff, Option.map_eq_some_iff, if_true] at h
    obtain ⟨es, hes, rs, hrs, hx⟩ := h
    have hlen : es.length = len := by simpa using Ev.mapM_all hes |>.1
    have hrl : rs.length = cap - len := by simpa using Ev.mapM_all hrs |>.1
    simp only [Prod.mk.injEq] at hx
    have hin : ∀ y, y ∈ es ++ rs → ∀ p, p ∈ y.2 → sp p.block = true := by
      intro y hy p hpy
      refine hp p ?_
      rw [← hx.2]
      exact List.mem_append_right _ (List.mem_flatMap.2 ⟨y, hy, hpy⟩)
    have step : ∀ (b : Addr) (y : DataW H × List MemPlace), y ∈ es ++ rs → (w.cells? 0 b (P.cellsOf e)).bind (DataW.trod enc P w 0 (fun _ => true) true n e) = some y → (w'.cells? 0 b (P.cellsOf e)).bind (DataW.trod enc P w' 0 sp true n e) = some y := by
      intro b y hy hbind
      obtain ⟨c, h1, h2⟩ := Option.bind_eq_some_iff.1 hbind
      rw [cells_stay hb h1]
      exact he n c y h2 (hin y hy)
    have e1 := mapM_stay (g := fun i => (w'.cells? 0 (a.add (i * P.cellsOf e)) (P.cellsOf e)).bind (DataW.trod enc P w' 0 sp true n e)) hes fun i y _ hy => step _ y (by simp [hy])
    have e2 := mapM_stay (g := fun j => (w'.cells? 0 (a.add ((len + j) * P.cellsOf e)) (P.cellsOf e)).bind (DataW.trod enc P w' 0 sp true n e)) hrs fun j y _ hy => step _ y (by simp [hy])
    rw [e1]
    simp only [Option.bind_some]
    by_cases hz : (es.length + rs.length) * P.cellsOf e = 0
    · have hcap : cap = 0 := by
        rcases Nat.mul_eq_zero.1 hz with h0 | h0 <;> omega
      obtain rfl : rs = [] := List.eq_nil_of_length_eq_zero (by omega)
      have e3 : (if sp a.block = true then (List.range (cap - len)).mapM (fun j => (w'.cells? 0 (a.add ((len + j) * P.cellsOf e)) (P.cellsOf e)).bind (DataW.trod enc P w' 0 sp true n e)) else some []) = some [] := by
        split
        · exact e2
        · rfl
      rw [e3]
      simp only [Option.map_some, Option.some.injEq, Prod.mk.injEq]
      exact hx
    · have hsp : sp a.block = true := hp (.cell a.block (a.off + 0)) (by
        rw [← hx.2]
        refine List.mem_append_left _ ?_
        unfold MemPlace.row
        exact List.mem_map.2 ⟨0, List.mem_range.2 (Nat.pos_of_ne_zero hz), rfl⟩)
      rw [if_pos hsp, e2]
      simp only [Option.map_some, Option.some.injEq, Prod.mk.injEq]
      exact hx

theorem stays_struct {t : TypeId} {fs : Array Field} (ht : P.underlying t = some (.struct fs)) (hf : ∀ f, f ∈ fs.toList → Stays enc P w w' sp f.type) : Stays enc P w w' sp t := by
  intro fuel cs x h hp
  cases fuel with
  | zero => simp [DataW.trod] at h
  | succ n =>
    simp only [DataW.trod, ht] at h ⊢
    split at h
    · rename_i hl
      rw [if_pos hl]
      simp only [Option.map_eq_some_iff] at h
      obtain ⟨xs, hxs, rfl⟩ := h
      rw [mapM_stay (g := fun f => DataW.trod enc P w' 0 sp true n f.type ((cs.drop f.offset).take (P.cellsOf f.type))) hxs fun f y hfm hy hq => hf f hfm n _ y hq fun p hpy => hp p (List.mem_flatMap.2 ⟨y, hy, hpy⟩)]
      rfl
    · cases h
end

section
variable {H : Type} {enc : TypeId × Value → H} {w w' : World} {sp : Nat → Bool}
theorem stays28 (hb : Below w.heap.size w w') : Stays enc Tryz.prog w w' sp 28 := by
  have s51 : Stays enc Tryz.prog w w' sp 51 := stays_int Tryz.underlying51
  have s3 : Stays enc Tryz.prog w w' sp 3 := stays_int Tryz.underlying3
  have s59 : Stays enc Tryz.prog w w' sp 59 := stays_struct Tryz.underlying59 fun f hf => by
    simp only [List.mem_cons, List.not_mem_nil, or_false] at hf
    rcases hf with rfl | rfl
    · exact s3
    · exact s51
  have s26 : Stays enc Tryz.prog w w' sp 26 := stays_slice hb Tryz.underlying26 (by rw [cells51]; decide) s51
  have s25 : Stays enc Tryz.prog w w' sp 25 := stays_slice hb Tryz.underlying25 (by rw [cells59]; decide) s59
  have s22 : Stays enc Tryz.prog w w' sp 22 := stays_slice hb Tryz.underlying22 (by rw [cells26]; decide) s26
  have s24 : Stays enc Tryz.prog w w' sp 24 := stays_struct Tryz.underlying24 fun f hf => by
    simp only [List.mem_cons, List.not_mem_nil, or_false] at hf
    rcases hf with rfl | rfl
    · exact s22
    · exact s22
  exact stays_struct Tryz.underlying28 fun f hf => by
    simp only [List.mem_cons, List.not_mem_nil, or_false] at hf
    rcases hf with rfl | rfl | rfl
    · exact s24
    · exact s25
    · exact s26
theorem trod28_stays (hb : Below w.heap.size w w') {v : Value} {d : DataW H} {ps : List MemPlace} (h : DataW.Trod enc Tryz.prog w 0 (fun _ => true) true 28 v d ps) (hp : ∀ p, p ∈ ps → sp p.block = true) : DataW.Trod enc Tryz.prog w' 0 sp true 28 v d ps := by
  obtain ⟨fuel, h⟩ := h
  exact ⟨fuel, stays28 hb fuel _ _ h hp⟩
end
end Go.Proofs.YtloomikigalnfaaGreatDoor.PAll
end
