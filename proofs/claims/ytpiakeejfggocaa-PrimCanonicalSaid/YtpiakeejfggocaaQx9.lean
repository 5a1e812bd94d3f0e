-- Written by a program of this session (wip/prn.py) out of the translation, for the seat Ytpiakeejfggocaa. Not trusted: Lean checks it.
import Derived.Test.YtpiakeejfggocaaQx0
namespace Go.Proofs.Ytpiakeejfggocaa.Q
open Go.RowKit Go.Proofs.YtpiakeejfggocaaW.PrintWords Go.Proofs.YtpiakeejfggocaaW.PrintLast Go.Proofs.YtpiakeejfggocaaW.PrintMore
attribute [local go_sem] max2_int min2_int max_two min_two max_three min_three max_four min_four   -- for this text's walks alone
set_option linter.unusedVariables false
set_option linter.unusedSimpArgs false

/-! ### prim_Boolean: function 14 -/
def prim_Boolean.f (a0 : ByteArray) : Option (Bool × Int) := if a0.toList = ([0] : List UInt8) then (some (false, 0)) else (if a0.toList = ([255] : List UInt8) then (some (true, 0)) else (some (false, 7)))
set_option maxHeartbeats 8000000 in
set_option maxRecDepth 100000 in
theorem prim_Boolean.calls (a0 : ByteArray) (r1 : Bool) (r2 : Int) (w : World) (h : prim_Boolean.f a0 = some (r1, r2)) :
    Calls Try.prog 14 #[.string a0] w fun e w' => e = .returned (.tuple #[.bool r1, .int .i64 r2]) ∧ Drawn0 w w' := by
  have H : (if a0.toList = ([0] : List UInt8) then (some (false, 0)) else (if a0.toList = ([255] : List UInt8) then (some (true, 0)) else (some (false, 7)))) = some (r1, r2) := h
  clear h
  by_cases c2 : a0.toList = ([0] : List UInt8)
  · rw [if_pos c2] at H
    have c2b0 : (a0.toList == ([0] : List UInt8)) = true := beq_iff_eq.mpr c2
    have c2b1 : (a0.toList != ([0] : List UInt8)) = false := bne_eq_false_iff_eq.mpr c2
    clear c2
    simp only [Option.some.injEq, Prod.mk.injEq] at H
    obtain ⟨rfl, rfl⟩ := H
    go_enter Try.func14, Try.ntmps14
    go_wp2
    go_ret2
    exact ⟨by first | rfl | (simp; done) | (simp [*]; done), by repeat (first | exact Drawn0.refl _ | apply Drawn0.step)⟩
  · rw [if_neg c2] at H
    have c2b0 : (a0.toList == ([0] : List UInt8)) = false := beq_eq_false_iff_ne.mpr c2
    have c2b1 : (a0.toList != ([0] : List UInt8)) = true := bne_iff_ne.mpr c2
    by_cases c3 : a0.toList = ([255] : List UInt8)
    · rw [if_pos c3] at H
      have c3b0 : (a0.toList == ([255] : List UInt8)) = true := beq_iff_eq.mpr c3
      have c3b1 : (a0.toList != ([255] : List UInt8)) = false := bne_eq_false_iff_eq.mpr c3
      clear c3
      simp only [Option.some.injEq, Prod.mk.injEq] at H
      obtain ⟨rfl, rfl⟩ := H
      go_enter Try.func14, Try.ntmps14
      go_wp2
      go_ret2
      exact ⟨by first | rfl | (simp; done) | (simp [*]; done), by repeat (first | exact Drawn0.refl _ | apply Drawn0.step)⟩
    · rw [if_neg c3] at H
      have c3b0 : (a0.toList == ([255] : List UInt8)) = false := beq_eq_false_iff_ne.mpr c3
      have c3b1 : (a0.toList != ([255] : List UInt8)) = true := bne_iff_ne.mpr c3
      simp only [Option.some.injEq, Prod.mk.injEq] at H
      obtain ⟨rfl, rfl⟩ := H
      go_enter Try.func14, Try.ntmps14
      go_wp2
      go_ret2
      exact ⟨by first | rfl | (simp; done) | (simp [*]; done), by repeat (first | exact Drawn0.refl _ | apply Drawn0.step)⟩

/-! ### certpathref01_Boolean: function 15 -/
def certpathref01_Boolean.f (a0 : ByteArray) : Option (Bool × Int) := if a0.toList = ([0] : List UInt8) then (some ((a0.toList == ([255] : List UInt8)), 0)) else (if a0.toList = ([255] : List UInt8) then (some ((a0.toList == ([255] : List UInt8)), 0)) else (some (false, 7)))
set_option maxHeartbeats 8000000 in
set_option maxRecDepth 100000 in
theorem certpathref01_Boolean.calls (a0 : ByteArray) (r1 : Bool) (r2 : Int) (w : World) (h : certpathref01_Boolean.f a0 = some (r1, r2)) :
    Calls Try.prog 15 #[.string a0] w fun e w' => e = .returned (.tuple #[.bool r1, .int .i64 r2]) ∧ Drawn0 w w' := by
  have H : (if a0.toList = ([0] : List UInt8) then (some ((a0.toList == ([255] : List UInt8)), 0)) else (if a0.toList = ([255] : List UInt8) then (some ((a0.toList == ([255] : List UInt8)), 0)) else (some (false, 7)))) = some (r1, r2) := h
  clear h
  by_cases c2 : a0.toList = ([0] : List UInt8)
  · rw [if_pos c2] at H
    have c2b0 : (a0.toList == ([0] : List UInt8)) = true := beq_iff_eq.mpr c2
    have c2b1 : (a0.toList != ([0] : List UInt8)) = false := bne_eq_false_iff_eq.mpr c2
    clear c2
    simp only [Option.some.injEq, Prod.mk.injEq] at H
    obtain ⟨rfl, rfl⟩ := H
    go_enter Try.func15, Try.ntmps15
    go_wp2
    go_ret2
    exact ⟨by first | rfl | (simp; done) | (simp [*]; done), by repeat (first | exact Drawn0.refl _ | apply Drawn0.step)⟩
  · rw [if_neg c2] at H
    have c2b0 : (a0.toList == ([0] : List UInt8)) = false := beq_eq_false_iff_ne.mpr c2
    have c2b1 : (a0.toList != ([0] : List UInt8)) = true := bne_iff_ne.mpr c2
    by_cases c3 : a0.toList = ([255] : List UInt8)
    · rw [if_pos c3] at H
      have c3b0 : (a0.toList == ([255] : List UInt8)) = true := beq_iff_eq.mpr c3
      have c3b1 : (a0.toList != ([255] : List UInt8)) = false := bne_eq_false_iff_eq.mpr c3
      clear c3
      simp only [Option.some.injEq, Prod.mk.injEq] at H
      obtain ⟨rfl, rfl⟩ := H
      go_enter Try.func15, Try.ntmps15
      go_wp2
      go_ret2
      exact ⟨by first | rfl | (simp; done) | (simp [*]; done), by repeat (first | exact Drawn0.refl _ | apply Drawn0.step)⟩
    · rw [if_neg c3] at H
      have c3b0 : (a0.toList == ([255] : List UInt8)) = false := beq_eq_false_iff_ne.mpr c3
      have c3b1 : (a0.toList != ([255] : List UInt8)) = true := bne_iff_ne.mpr c3
      simp only [Option.some.injEq, Prod.mk.injEq] at H
      obtain ⟨rfl, rfl⟩ := H
      go_enter Try.func15, Try.ntmps15
      go_wp2
      go_ret2
      exact ⟨by first | rfl | (simp; done) | (simp [*]; done), by repeat (first | exact Drawn0.refl _ | apply Drawn0.step)⟩

/-! ### prim_PutBoolean: function 16 -/
def prim_PutBoolean.f (a0 : Bool) : Option (ByteArray) := if a0 = true then (some (⟨#[255]⟩ : ByteArray)) else (some (⟨#[0]⟩ : ByteArray))
set_option maxHeartbeats 8000000 in
set_option maxRecDepth 100000 in
theorem prim_PutBoolean.calls (a0 : Bool) (r : ByteArray) (w : World) (h : prim_PutBoolean.f a0 = some r) :
    Calls Try.prog 16 #[.bool a0] w fun e w' => e = .returned (.string r) ∧ Drawn0 w w' := by
  have H : (if a0 = true then (some (⟨#[255]⟩ : ByteArray)) else (some (⟨#[0]⟩ : ByteArray))) = some r := h
  clear h
  by_cases c2 : a0 = true
  · subst c2
    have H1 : (some (⟨#[255]⟩ : ByteArray)) = some r := by rw [if_pos rfl] at H; exact H
    clear H
    have H := H1
    clear H1
    obtain rfl := Option.some.inj H
    go_enter Try.func16, Try.ntmps16
    go_wp2
    go_ret
    exact ⟨by first | rfl | (simp; done) | (simp [*]; done), by repeat (first | exact Drawn0.refl _ | apply Drawn0.step)⟩
  · replace c2 := Bool.eq_false_iff.mpr c2
    subst c2
    have H1 : (some (⟨#[0]⟩ : ByteArray)) = some r := by rw [if_neg (show ¬ (false = true) by decide)] at H; exact H
    clear H
    have H := H1
    clear H1
    obtain rfl := Option.some.inj H
    go_enter Try.func16, Try.ntmps16
    go_wp2
    go_ret
    exact ⟨by first | rfl | (simp; done) | (simp [*]; done), by repeat (first | exact Drawn0.refl _ | apply Drawn0.step)⟩

/-! ### certpathref01_PutBoolean: function 17 -/
def certpathref01_PutBoolean.f (a0 : Bool) : Option (ByteArray) := if a0 = true then (some (⟨#[255]⟩ : ByteArray)) else (some (⟨#[0]⟩ : ByteArray))
set_option maxHeartbeats 8000000 in
set_option maxRecDepth 100000 in
theorem certpathref01_PutBoolean.calls (a0 : Bool) (r : ByteArray) (w : World) (h : certpathref01_PutBoolean.f a0 = some r) :
    Calls Try.prog 17 #[.bool a0] w fun e w' => e = .returned (.string r) ∧ Drawn0 w w' := by
  have H : (if a0 = true then (some (⟨#[255]⟩ : ByteArray)) else (some (⟨#[0]⟩ : ByteArray))) = some r := h
  clear h
  by_cases c2 : a0 = true
  · subst c2
    have H1 : (some (⟨#[255]⟩ : ByteArray)) = some r := by rw [if_pos rfl] at H; exact H
    clear H
    have H := H1
    clear H1
    obtain rfl := Option.some.inj H
    go_enter Try.func17, Try.ntmps17
    go_wp2
    go_ret
    exact ⟨by first | rfl | (simp; done) | (simp [*]; done), by repeat (first | exact Drawn0.refl _ | apply Drawn0.step)⟩
  · replace c2 := Bool.eq_false_iff.mpr c2
    subst c2
    have H1 : (some (⟨#[0]⟩ : ByteArray)) = some r := by rw [if_neg (show ¬ (false = true) by decide)] at H; exact H
    clear H
    have H := H1
    clear H1
    obtain rfl := Option.some.inj H
    go_enter Try.func17, Try.ntmps17
    go_wp2
    go_ret
    exact ⟨by first | rfl | (simp; done) | (simp [*]; done), by repeat (first | exact Drawn0.refl _ | apply Drawn0.step)⟩

end Go.Proofs.Ytpiakeejfggocaa.Q
