-- Written by a program of this session (wip/prn.py) out of the translation, for the seat YtegmenlonpgnpaaDoor. Not trusted: Lean checks it.
import Derived.Test.YtegmenlonpgnpaaDoorRx0
import Derived.Test.YtegmenlonpgnpaaDoorRx5
import Derived.Test.YtegmenlonpgnpaaDoorRx6
namespace Go.Proofs.YtegmenlonpgnpaaDoor.Q
open Go.RowKit Go.Proofs.YtegmenlonpgnpaaDoorW.PrintWords Go.Proofs.YtegmenlonpgnpaaDoorW.PrintLast Go.Proofs.YtegmenlonpgnpaaDoorW.PrintMore
attribute [local go_sem] max2_int min2_int max_two min_two max_three min_three max_four min_four   -- for this text's walks alone
set_option linter.unusedVariables false
set_option linter.unusedSimpArgs false

/-! ### certpathref07_AddressWithin: function 38 -/
mutual
def certpathref07_AddressWithin.j0 : Nat → ByteArray → ByteArray → Int → Bool → Option (Bool)
  | 0, _, _, _, _ => none
  | k + 1, x0, x1, x5, x6 => if x6 = true then (certpathref07_AddressWithin.j1 k x0 x1 x5 x6 false) else ((certpathref07_Range.f k x0).bind fun t192 => (if t192 = true then (certpathref07_AddressWithin.j1 k x0 x1 x5 x6 ((x0.size : Int) != (x1.size : Int))) else (certpathref07_AddressWithin.j1 k x0 x1 x5 x6 true)))
def certpathref07_AddressWithin.j1 : Nat → ByteArray → ByteArray → Int → Bool → Bool → Option (Bool)
  | 0, _, _, _, _, _ => none
  | k + 1, x0, x1, x5, x6, x35 => if x35 = true then (some false) else (certpathref07_AddressWithin.l0 k x0 x1 x5 x6 0)
def certpathref07_AddressWithin.l0 : Nat → ByteArray → ByteArray → Int → Bool → Int → Option (Bool)
  | 0, _, _, _, _, _ => none
  | k + 1, x0, x1, x5, x6, x7 => if x7 < x5 then (if 0 ≤ x7 then (if x7 < (x0.size : Int) then (if 0 ≤ (wrap64 (x5 + x7)) then (if (wrap64 (x5 + x7)) < (x1.size : Int) then (if x7 < (x1.size : Int) then (if (Go.bits .and .u8 (bt x0 x7) (bt x1 (wrap64 (x5 + x7)))) = (bt x1 x7) then (if x6 = true then (certpathref07_AddressWithin.l0 k x0 x1 x5 x6 (wrap64 (x7 + 1))) else (if (wrap64 (x5 + x7)) < (x0.size : Int) then (if (Go.bits .and .u8 (bt x0 (wrap64 (x5 + x7))) (bt x1 (wrap64 (x5 + x7)))) = (bt x1 (wrap64 (x5 + x7))) then (certpathref07_AddressWithin.l0 k x0 x1 x5 x6 (wrap64 (x7 + 1))) else (some false)) else (none))) else (some false)) else (none)) else (none)) else (none)) else (none)) else (none)) else (some true)
end
def certpathref07_AddressWithin.f (k : Nat) (a0 : ByteArray) (a1 : ByteArray) : Option (Bool) := (certpathref07_Range.f k a1).bind fun t190 => (if t190 = true then ((certpathref07_Address.f a0).bind fun t191 => (if t191 = true then (certpathref07_AddressWithin.j0 k a0 a1 (wrap64 ((a1.size : Int) / 2)) ((a0.size : Int) == (wrap64 ((a1.size : Int) / 2)))) else (certpathref07_AddressWithin.j0 k a0 a1 (wrap64 ((a1.size : Int) / 2)) false))) else (some false))
theorem certpathref07_AddressWithin.mono_l : ∀ k, (∀ y0 y1 y2 y3, LeO (certpathref07_AddressWithin.j0 k y0 y1 y2 y3) (certpathref07_AddressWithin.j0 (k + 1) y0 y1 y2 y3)) ∧ (∀ y0 y1 y2 y3 y4, LeO (certpathref07_AddressWithin.j1 k y0 y1 y2 y3 y4) (certpathref07_AddressWithin.j1 (k + 1) y0 y1 y2 y3 y4)) ∧ (∀ y0 y1 y2 y3 y4, LeO (certpathref07_AddressWithin.l0 k y0 y1 y2 y3 y4) (certpathref07_AddressWithin.l0 (k + 1) y0 y1 y2 y3 y4))
  | 0 => ⟨fun _ _ _ _ r h => by simp [certpathref07_AddressWithin.j0] at h, fun _ _ _ _ _ r h => by simp [certpathref07_AddressWithin.j1] at h, fun _ _ _ _ _ r h => by simp [certpathref07_AddressWithin.l0] at h⟩
  | k + 1 => by
    obtain ⟨ih0, ih1, ih2⟩ := certpathref07_AddressWithin.mono_l k
    refine ⟨?_, ?_, ?_⟩
    · intro y0 y1 y2 y3
      unfold certpathref07_AddressWithin.j0
      repeat' first
      | (with_reducible exact ih0 _ _ _ _)
      | (with_reducible exact ih1 _ _ _ _ _)
      | (with_reducible exact ih2 _ _ _ _ _)
      | (with_reducible exact certpathref07_Range.mono _ _)
      | (with_reducible exact LeO.refl _)
      | (with_reducible exact LeO.none _)
      | (with_reducible refine LeO.ite ?_ ?_)
      | (with_reducible refine LeO.bind ?_ (fun _ => ?_))
      | exact ih0 _ _ _ _
      | exact ih1 _ _ _ _ _
      | exact ih2 _ _ _ _ _
      | exact certpathref07_Range.mono _ _
      | exact LeO.none _
      | refine LeO.ite ?_ ?_
      | refine LeO.bind ?_ (fun _ => ?_)
    · intro y0 y1 y2 y3 y4
      unfold certpathref07_AddressWithin.j1
      repeat' first
      | (with_reducible exact ih0 _ _ _ _)
      | (with_reducible exact ih1 _ _ _ _ _)
      | (with_reducible exact ih2 _ _ _ _ _)
      | (with_reducible exact certpathref07_Range.mono _ _)
      | (with_reducible exact LeO.refl _)
      | (with_reducible exact LeO.none _)
      | (with_reducible refine LeO.ite ?_ ?_)
      | (with_reducible refine LeO.bind ?_ (fun _ => ?_))
      | exact ih0 _ _ _ _
      | exact ih1 _ _ _ _ _
      | exact ih2 _ _ _ _ _
      | exact certpathref07_Range.mono _ _
      | exact LeO.none _
      | refine LeO.ite ?_ ?_
      | refine LeO.bind ?_ (fun _ => ?_)
    · intro y0 y1 y2 y3 y4
      unfold certpathref07_AddressWithin.l0
      repeat' first
      | (with_reducible exact ih0 _ _ _ _)
      | (with_reducible exact ih1 _ _ _ _ _)
      | (with_reducible exact ih2 _ _ _ _ _)
      | (with_reducible exact certpathref07_Range.mono _ _)
      | (with_reducible exact LeO.refl _)
      | (with_reducible exact LeO.none _)
      | (with_reducible refine LeO.ite ?_ ?_)
      | (with_reducible refine LeO.bind ?_ (fun _ => ?_))
      | exact ih0 _ _ _ _
      | exact ih1 _ _ _ _ _
      | exact ih2 _ _ _ _ _
      | exact certpathref07_Range.mono _ _
      | exact LeO.none _
      | refine LeO.ite ?_ ?_
      | refine LeO.bind ?_ (fun _ => ?_)
theorem certpathref07_AddressWithin.mono : ∀ a0 a1 k, LeO (certpathref07_AddressWithin.f k a0 a1) (certpathref07_AddressWithin.f (k + 1) a0 a1) := by
  intro a0 a1 k
  obtain ⟨ih0, ih1, ih2⟩ := certpathref07_AddressWithin.mono_l k
  unfold certpathref07_AddressWithin.f
  repeat' first
      | (with_reducible exact ih0 _ _ _ _)
      | (with_reducible exact ih1 _ _ _ _ _)
      | (with_reducible exact ih2 _ _ _ _ _)
      | (with_reducible exact certpathref07_Range.mono _ _)
      | (with_reducible exact LeO.refl _)
      | (with_reducible exact LeO.none _)
      | (with_reducible refine LeO.ite ?_ ?_)
      | (with_reducible refine LeO.bind ?_ (fun _ => ?_))
      | exact ih0 _ _ _ _
      | exact ih1 _ _ _ _ _
      | exact ih2 _ _ _ _ _
      | exact certpathref07_Range.mono _ _
      | exact LeO.none _
      | refine LeO.ite ?_ ?_
      | refine LeO.bind ?_ (fun _ => ?_)
set_option maxHeartbeats 8000000 in
set_option maxRecDepth 100000 in
theorem certpathref07_AddressWithin.calls (k : Nat) (a0 : ByteArray) (a1 : ByteArray) (r : Bool) (w : World) (hG_ : Ext.G w) (h : certpathref07_AddressWithin.f k a0 a1 = some r) :
    Calls Tryd.prog 38 #[.string a0, .string a1] w fun e w' => e = .returned (.bool r) ∧ Drawn0 w w' := by
  have H : ((certpathref07_Range.f k a1).bind fun t190 => (if t190 = true then ((certpathref07_Address.f a0).bind fun t191 => (if t191 = true then (certpathref07_AddressWithin.j0 k a0 a1 (wrap64 ((a1.size : Int) / 2)) ((a0.size : Int) == (wrap64 ((a1.size : Int) / 2)))) else (certpathref07_AddressWithin.j0 k a0 a1 (wrap64 ((a1.size : Int) / 2)) false))) else (some false))) = some r := h
  clear h
  replace H := Option.bind_eq_some_iff.mp H
  obtain ⟨t190, A30, H⟩ := H
  replace H : (if t190 = true then ((certpathref07_Address.f a0).bind fun t191 => (if t191 = true then (certpathref07_AddressWithin.j0 k a0 a1 (wrap64 ((a1.size : Int) / 2)) ((a0.size : Int) == (wrap64 ((a1.size : Int) / 2)))) else (certpathref07_AddressWithin.j0 k a0 a1 (wrap64 ((a1.size : Int) / 2)) false))) else (some false)) = some r := H
  have A3 := Aside0.mk A30
  clear A30
  by_cases c4 : t190 = true
  · subst c4
    have H1 : ((certpathref07_Address.f a0).bind fun t191 => (if t191 = true then (certpathref07_AddressWithin.j0 k a0 a1 (wrap64 ((a1.size : Int) / 2)) ((a0.size : Int) == (wrap64 ((a1.size : Int) / 2)))) else (certpathref07_AddressWithin.j0 k a0 a1 (wrap64 ((a1.size : Int) / 2)) false))) = some r := by rw [if_pos rfl] at H; exact H
    clear H
    have H := H1
    clear H1
    have HC5 := Aside0.mk H
    clear H
    go_enter Tryd.func38, Tryd.ntmps38
    go_upto_region 4 with (first | (go_at_call 36; (with_reducible refine (certpathref07_Range.calls k a1 true _ ?side1 A3.out).mono ?_); (case side1 => repeat (first | exact hG_ | apply Ext.G.drewN | apply Ext.G.drew)); rintro e w' ⟨rfl, ⟨nd, rfl⟩⟩; (try first | exact ⟨rfl, _, World.drewN_drewN _ _ _⟩ | exact ⟨rfl, _, Eq.trans (World.drewN_drewN _ _ _) (congrArg (World.drewN _) (Nat.add_assoc _ _ _))⟩)))
    repeat (go_quiet (first | (go_at_call 36; (with_reducible refine (certpathref07_Range.calls k a1 true _ ?side1 A3.out).mono ?_); (case side1 => repeat (first | exact hG_ | apply Ext.G.drewN | apply Ext.G.drew)); rintro e w' ⟨rfl, ⟨nd, rfl⟩⟩; (try first | exact ⟨rfl, _, World.drewN_drewN _ _ _⟩ | exact ⟨rfl, _, Eq.trans (World.drewN_drewN _ _ _) (congrArg (World.drewN _) (Nat.add_assoc _ _ _))⟩))); go_upto_region 4 with (first | (go_at_call 36; (with_reducible refine (certpathref07_Range.calls k a1 true _ ?side1 A3.out).mono ?_); (case side1 => repeat (first | exact hG_ | apply Ext.G.drewN | apply Ext.G.drew)); rintro e w' ⟨rfl, ⟨nd, rfl⟩⟩; (try first | exact ⟨rfl, _, World.drewN_drewN _ _ _⟩ | exact ⟨rfl, _, Eq.trans (World.drewN_drewN _ _ _) (congrArg (World.drewN _) (Nat.add_assoc _ _ _))⟩))))
    (try simp only [Act.put, List.setIfInBounds_toArray, List.set_cons_zero, List.set_cons_succ])
    go_cut [6] (fun v6 wc => ∃ (kq : Nat) (x6_4 : Bool), v6 = .bool x6_4 ∧ Aside0 (certpathref07_AddressWithin.j0 kq a0 a1 (wrap64 ((a1.size : Int) / 2)) x6_4 = some r) ∧ Aside0 (kq ≤ k) ∧ Drawn0 w wc)
    case first =>
      have H := HC5.out
      clear HC5
      replace H := Option.bind_eq_some_iff.mp H
      obtain ⟨t191, A60, H⟩ := H
      replace H : (if t191 = true then (certpathref07_AddressWithin.j0 k a0 a1 (wrap64 ((a1.size : Int) / 2)) ((a0.size : Int) == (wrap64 ((a1.size : Int) / 2)))) else (certpathref07_AddressWithin.j0 k a0 a1 (wrap64 ((a1.size : Int) / 2)) false)) = some r := H
      have A6 := Aside0.mk A60
      clear A60
      by_cases c7 : t191 = true
      · subst c7
        have H1 : (certpathref07_AddressWithin.j0 k a0 a1 (wrap64 ((a1.size : Int) / 2)) ((a0.size : Int) == (wrap64 ((a1.size : Int) / 2)))) = some r := by rw [if_pos rfl] at H; exact H
        clear H
        have H := H1
        clear H1
        have H' := Aside0.mk H
        clear H
        go_wp2_with (first | (go_at_call 34; (with_reducible refine (certpathref07_Address.calls a0 true _ ?side1 A6.out).mono ?_); (case side1 => repeat (first | exact hG_ | apply Ext.G.drewN | apply Ext.G.drew)); rintro e w' ⟨rfl, ⟨nd, rfl⟩⟩; (try first | exact ⟨rfl, _, World.drewN_drewN _ _ _⟩ | exact ⟨rfl, _, Eq.trans (World.drewN_drewN _ _ _) (congrArg (World.drewN _) (Nat.add_assoc _ _ _))⟩)))
        repeat (go_quiet (first | (go_at_call 34; (with_reducible refine (certpathref07_Address.calls a0 true _ ?side1 A6.out).mono ?_); (case side1 => repeat (first | exact hG_ | apply Ext.G.drewN | apply Ext.G.drew)); rintro e w' ⟨rfl, ⟨nd, rfl⟩⟩; (try first | exact ⟨rfl, _, World.drewN_drewN _ _ _⟩ | exact ⟨rfl, _, Eq.trans (World.drewN_drewN _ _ _) (congrArg (World.drewN _) (Nat.add_assoc _ _ _))⟩))); try go_wp2_with (first | (go_at_call 34; (with_reducible refine (certpathref07_Address.calls a0 true _ ?side1 A6.out).mono ?_); (case side1 => repeat (first | exact hG_ | apply Ext.G.drewN | apply Ext.G.drew)); rintro e w' ⟨rfl, ⟨nd, rfl⟩⟩; (try first | exact ⟨rfl, _, World.drewN_drewN _ _ _⟩ | exact ⟨rfl, _, Eq.trans (World.drewN_drewN _ _ _) (congrArg (World.drewN _) (Nat.add_assoc _ _ _))⟩))))
        go_meet
        case rel => exact ⟨_, (((a0.size : Int) == (wrap64 ((a1.size : Int) / 2)))), (by first | rfl | (simp; done) | (simp [*]; done)), H', ⟨by first | omega | exact Nat.le_refl _⟩, by repeat (first | exact Drawn0.refl _ | apply Drawn0.step)⟩
      · replace c7 := Bool.eq_false_iff.mpr c7
        subst c7
        have H1 : (certpathref07_AddressWithin.j0 k a0 a1 (wrap64 ((a1.size : Int) / 2)) false) = some r := by rw [if_neg (show ¬ (false = true) by decide)] at H; exact H
        clear H
        have H := H1
        clear H1
        have H' := Aside0.mk H
        clear H
        go_wp2_with (first | (go_at_call 34; (with_reducible refine (certpathref07_Address.calls a0 false _ ?side1 A6.out).mono ?_); (case side1 => repeat (first | exact hG_ | apply Ext.G.drewN | apply Ext.G.drew)); rintro e w' ⟨rfl, ⟨nd, rfl⟩⟩; (try first | exact ⟨rfl, _, World.drewN_drewN _ _ _⟩ | exact ⟨rfl, _, Eq.trans (World.drewN_drewN _ _ _) (congrArg (World.drewN _) (Nat.add_assoc _ _ _))⟩)))
        repeat (go_quiet (first | (go_at_call 34; (with_reducible refine (certpathref07_Address.calls a0 false _ ?side1 A6.out).mono ?_); (case side1 => repeat (first | exact hG_ | apply Ext.G.drewN | apply Ext.G.drew)); rintro e w' ⟨rfl, ⟨nd, rfl⟩⟩; (try first | exact ⟨rfl, _, World.drewN_drewN _ _ _⟩ | exact ⟨rfl, _, Eq.trans (World.drewN_drewN _ _ _) (congrArg (World.drewN _) (Nat.add_assoc _ _ _))⟩))); try go_wp2_with (first | (go_at_call 34; (with_reducible refine (certpathref07_Address.calls a0 false _ ?side1 A6.out).mono ?_); (case side1 => repeat (first | exact hG_ | apply Ext.G.drewN | apply Ext.G.drew)); rintro e w' ⟨rfl, ⟨nd, rfl⟩⟩; (try first | exact ⟨rfl, _, World.drewN_drewN _ _ _⟩ | exact ⟨rfl, _, Eq.trans (World.drewN_drewN _ _ _) (congrArg (World.drewN _) (Nat.add_assoc _ _ _))⟩))))
        go_meet
        case rel => exact ⟨_, (false), (by first | rfl | (simp; done) | (simp [*]; done)), H', ⟨by first | omega | exact Nat.le_refl _⟩, by repeat (first | exact Drawn0.refl _ | apply Drawn0.step)⟩
    case rest =>
      clear HC5
      try clear p2
      try clear c3
      try clear c4
      try clear p6
      try clear c7
      obtain ⟨kq, x6_4, rfl, HA, HJ4, ⟨mc4, rfl⟩⟩ := hcut
      cases kq with
      | zero => exact absurd HA.out (by simp [certpathref07_AddressWithin.j0])
      | succ kj4 =>
        have H := HA.out
        clear HA
        simp only [certpathref07_AddressWithin.j0] at H
        have HC8 := Aside0.mk H
        clear H
        go_upto_region 5 with (fail)
        repeat (go_quiet (fail); go_upto_region 5 with (fail))
        go_cut [35] (fun v35 wc => ∃ (kq : Nat) (x35_7 : Bool), v35 = .bool x35_7 ∧ Aside0 (certpathref07_AddressWithin.j1 kq a0 a1 (wrap64 ((a1.size : Int) / 2)) x6_4 x35_7 = some r) ∧ Aside0 (kq ≤ kj4) ∧ Drawn0 w wc)
        case first =>
          have H := HC8.out
          clear HC8
          by_cases c9 : x6_4 = true
          · subst c9
            have H1 : (certpathref07_AddressWithin.j1 kj4 a0 a1 (wrap64 ((a1.size : Int) / 2)) true false) = some r := by rw [if_pos rfl] at H; exact H
            clear H
            have H := H1
            clear H1
            have H' := Aside0.mk H
            clear H
            go_wp2
            repeat (go_quiet (fail); try go_wp2)
            go_meet
            case rel => exact ⟨_, (false), (by first | rfl | (simp; done) | (simp [*]; done)), H', ⟨by have := HJ4.out; first | omega | exact Nat.le_refl _⟩, by repeat (first | exact Drawn0.refl _ | apply Drawn0.step)⟩
          · replace c9 := Bool.eq_false_iff.mpr c9
            subst c9
            have H1 : ((certpathref07_Range.f kj4 a0).bind fun t192 => (if t192 = true then (certpathref07_AddressWithin.j1 kj4 a0 a1 (wrap64 ((a1.size : Int) / 2)) false ((a0.size : Int) != (a1.size : Int))) else (certpathref07_AddressWithin.j1 kj4 a0 a1 (wrap64 ((a1.size : Int) / 2)) false true))) = some r := by rw [if_neg (show ¬ (false = true) by decide)] at H; exact H
            clear H
            have H := H1
            clear H1
            replace H := Option.bind_eq_some_iff.mp H
            obtain ⟨t192, A100, H⟩ := H
            replace H : (if t192 = true then (certpathref07_AddressWithin.j1 kj4 a0 a1 (wrap64 ((a1.size : Int) / 2)) false ((a0.size : Int) != (a1.size : Int))) else (certpathref07_AddressWithin.j1 kj4 a0 a1 (wrap64 ((a1.size : Int) / 2)) false true)) = some r := H
            have A10 := Aside0.mk A100
            clear A100
            by_cases c11 : t192 = true
            · subst c11
              have H1 : (certpathref07_AddressWithin.j1 kj4 a0 a1 (wrap64 ((a1.size : Int) / 2)) false ((a0.size : Int) != (a1.size : Int))) = some r := by rw [if_pos rfl] at H; exact H
              clear H
              have H := H1
              clear H1
              have H' := Aside0.mk H
              clear H
              go_wp2_with (first | (go_at_call 36; (with_reducible refine (certpathref07_Range.calls kj4 a0 true _ ?side1 A10.out).mono ?_); (case side1 => repeat (first | exact hG_ | apply Ext.G.drewN | apply Ext.G.drew)); rintro e w' ⟨rfl, ⟨nd, rfl⟩⟩; (try first | exact ⟨rfl, _, World.drewN_drewN _ _ _⟩ | exact ⟨rfl, _, Eq.trans (World.drewN_drewN _ _ _) (congrArg (World.drewN _) (Nat.add_assoc _ _ _))⟩)))
              repeat (go_quiet (first | (go_at_call 36; (with_reducible refine (certpathref07_Range.calls kj4 a0 true _ ?side1 A10.out).mono ?_); (case side1 => repeat (first | exact hG_ | apply Ext.G.drewN | apply Ext.G.drew)); rintro e w' ⟨rfl, ⟨nd, rfl⟩⟩; (try first | exact ⟨rfl, _, World.drewN_drewN _ _ _⟩ | exact ⟨rfl, _, Eq.trans (World.drewN_drewN _ _ _) (congrArg (World.drewN _) (Nat.add_assoc _ _ _))⟩))); try go_wp2_with (first | (go_at_call 36; (with_reducible refine (certpathref07_Range.calls kj4 a0 true _ ?side1 A10.out).mono ?_); (case side1 => repeat (first | exact hG_ | apply Ext.G.drewN | apply Ext.G.drew)); rintro e w' ⟨rfl, ⟨nd, rfl⟩⟩; (try first | exact ⟨rfl, _, World.drewN_drewN _ _ _⟩ | exact ⟨rfl, _, Eq.trans (World.drewN_drewN _ _ _) (congrArg (World.drewN _) (Nat.add_assoc _ _ _))⟩))))
              go_meet
              case rel => exact ⟨_, (((a0.size : Int) != (a1.size : Int))), (by first | rfl | (simp; done) | (simp [*]; done)), H', ⟨by have := HJ4.out; first | omega | exact Nat.le_refl _⟩, by repeat (first | exact Drawn0.refl _ | apply Drawn0.step)⟩
            · replace c11 := Bool.eq_false_iff.mpr c11
              subst c11
              have H1 : (certpathref07_AddressWithin.j1 kj4 a0 a1 (wrap64 ((a1.size : Int) / 2)) false true) = some r := by rw [if_neg (show ¬ (false = true) by decide)] at H; exact H
              clear H
              have H := H1
              clear H1
              have H' := Aside0.mk H
              clear H
              go_wp2_with (first | (go_at_call 36; (with_reducible refine (certpathref07_Range.calls kj4 a0 false _ ?side1 A10.out).mono ?_); (case side1 => repeat (first | exact hG_ | apply Ext.G.drewN | apply Ext.G.drew)); rintro e w' ⟨rfl, ⟨nd, rfl⟩⟩; (try first | exact ⟨rfl, _, World.drewN_drewN _ _ _⟩ | exact ⟨rfl, _, Eq.trans (World.drewN_drewN _ _ _) (congrArg (World.drewN _) (Nat.add_assoc _ _ _))⟩)))
              repeat (go_quiet (first | (go_at_call 36; (with_reducible refine (certpathref07_Range.calls kj4 a0 false _ ?side1 A10.out).mono ?_); (case side1 => repeat (first | exact hG_ | apply Ext.G.drewN | apply Ext.G.drew)); rintro e w' ⟨rfl, ⟨nd, rfl⟩⟩; (try first | exact ⟨rfl, _, World.drewN_drewN _ _ _⟩ | exact ⟨rfl, _, Eq.trans (World.drewN_drewN _ _ _) (congrArg (World.drewN _) (Nat.add_assoc _ _ _))⟩))); try go_wp2_with (first | (go_at_call 36; (with_reducible refine (certpathref07_Range.calls kj4 a0 false _ ?side1 A10.out).mono ?_); (case side1 => repeat (first | exact hG_ | apply Ext.G.drewN | apply Ext.G.drew)); rintro e w' ⟨rfl, ⟨nd, rfl⟩⟩; (try first | exact ⟨rfl, _, World.drewN_drewN _ _ _⟩ | exact ⟨rfl, _, Eq.trans (World.drewN_drewN _ _ _) (congrArg (World.drewN _) (Nat.add_assoc _ _ _))⟩))))
              go_meet
              case rel => exact ⟨_, (true), (by first | rfl | (simp; done) | (simp [*]; done)), H', ⟨by have := HJ4.out; first | omega | exact Nat.le_refl _⟩, by repeat (first | exact Drawn0.refl _ | apply Drawn0.step)⟩
        case rest =>
          clear HC8
          try clear c1
          try clear p2
          try clear c3
          try clear c4
          try clear p6
          try clear c7
          try clear c9
          try clear c11
          try clear p2
          try clear p6
          obtain ⟨kq, x35_7, rfl, HA, HJ7, ⟨mc7, rfl⟩⟩ := hcut
          cases kq with
          | zero => exact absurd HA.out (by simp [certpathref07_AddressWithin.j1])
          | succ kj7 =>
            have H := HA.out
            clear HA
            simp only [certpathref07_AddressWithin.j1] at H
            by_cases c12 : x35_7 = true
            · subst c12
              have H1 : (some false) = some r := by rw [if_pos rfl] at H; exact H
              clear H
              have H := H1
              clear H1
              obtain rfl := Option.some.inj H
              go_wp2
              repeat (go_quiet (fail); try go_wp2)
              go_ret
              exact ⟨by first | rfl | (simp; done) | (simp [*]; done), by repeat (first | exact Drawn0.refl _ | apply Drawn0.step)⟩
            · replace c12 := Bool.eq_false_iff.mpr c12
              subst c12
              have H1 : (certpathref07_AddressWithin.l0 kj7 a0 a1 (wrap64 ((a1.size : Int) / 2)) x6_4 0) = some r := by rw [if_neg (show ¬ (false = true) by decide)] at H; exact H
              clear H
              have H := H1
              clear H1
              have H' := Aside0.mk H
              clear H
              go_wp2
              repeat (go_quiet (fail); try go_wp2)
              go_loopg [7] kj7 (fun kq v7 w' => ∃ (x7_3 : Int), v7 = .int .i64 x7_3 ∧ Aside0 (certpathref07_AddressWithin.l0 kq a0 a1 (wrap64 ((a1.size : Int) / 2)) x6_4 x7_3 = some r) ∧ Aside0 (kq ≤ kj7) ∧ Drawn0 w w')
              case atStart => exact ⟨(0), (by first | rfl | (simp; done) | (simp [*]; done)), H', ⟨Nat.le_refl _⟩, by repeat (first | exact Drawn0.refl _ | apply Drawn0.step)⟩
              case round =>
                clear H'
                try clear c1
                try clear p2
                try clear c3
                try clear c4
                try clear p6
                try clear c7
                try clear c9
                try clear c11
                try clear c12
                try clear p2
                try clear p6
                obtain ⟨x7_3, rfl, HA, HK3, ⟨m3, rfl⟩⟩ := hrel
                cases gk with
                | zero => exact absurd HA.out (by simp [certpathref07_AddressWithin.l0])
                | succ k3 =>
                  have H := HA.out
                  clear HA
                  simp only [certpathref07_AddressWithin.l0] at H
                  by_cases c13 : x7_3 < (wrap64 ((a1.size : Int) / 2))
                  · rw [if_pos c13] at H
                    have c13b0 : decide (x7_3 < (wrap64 ((a1.size : Int) / 2))) = true := decide_eq_true c13
                    clear c13
                    by_cases c14 : 0 ≤ x7_3
                    · rw [if_pos c14] at H
                      have c14b0 : decide (0 ≤ x7_3) = true := decide_eq_true c14
                      clear c14
                      by_cases c15 : x7_3 < (a0.size : Int)
                      · rw [if_pos c15] at H
                        have c15b0 : decide (x7_3 < (a0.size : Int)) = true := decide_eq_true c15
                        clear c15
                        obtain ⟨ji17, hji17⟩ : ∃ j_ : Int, (wrap64 ((wrap64 ((a1.size : Int) / 2)) + x7_3)) = j_ := ⟨_, rfl⟩
                        replace H : (if 0 ≤ (ji17) then (if (ji17) < (a1.size : Int) then (if x7_3 < (a1.size : Int) then (if (Go.bits .and .u8 (bt a0 x7_3) (bt a1 (ji17))) = (bt a1 x7_3) then (if x6_4 = true then (certpathref07_AddressWithin.l0 k3 a0 a1 (wrap64 ((a1.size : Int) / 2)) x6_4 (wrap64 (x7_3 + 1))) else (if (ji17) < (a0.size : Int) then (if (Go.bits .and .u8 (bt a0 (ji17)) (bt a1 (ji17))) = (bt a1 (ji17)) then (certpathref07_AddressWithin.l0 k3 a0 a1 (wrap64 ((a1.size : Int) / 2)) x6_4 (wrap64 (x7_3 + 1))) else (some false)) else (none))) else (some false)) else (none)) else (none)) else (none)) = some r := by first | (rw [hji17] at H; exact H) | (simp only [hji17] at H ⊢; exact H)
                        have hji17w : (IntKind.i64.wrap ((wrap64 ((a1.size : Int) / 2)) + x7_3)) = ji17 := (i64_w _).trans hji17
                        by_cases c18 : 0 ≤ (ji17)
                        · rw [if_pos c18] at H
                          have c18b0 : decide (0 ≤ (ji17)) = true := decide_eq_true c18
                          clear c18
                          by_cases c19 : (ji17) < (a1.size : Int)
                          · rw [if_pos c19] at H
                            have c19b0 : decide ((ji17) < (a1.size : Int)) = true := decide_eq_true c19
                            clear c19
                            by_cases c21 : x7_3 < (a1.size : Int)
                            · rw [if_pos c21] at H
                              have c21b0 : decide (x7_3 < (a1.size : Int)) = true := decide_eq_true c21
                              clear c21
                              by_cases c23 : (Go.bits .and .u8 (bt a0 x7_3) (bt a1 (ji17))) = (bt a1 x7_3)
                              · rw [if_pos c23] at H
                                have c23b0 : ((Go.bits .and .u8 (bt a0 x7_3) (bt a1 (ji17))) == (bt a1 x7_3)) = true := beq_iff_eq.mpr c23
                                have c23b1 : ((Go.bits .and .u8 (bt a0 x7_3) (bt a1 (ji17))) != (bt a1 x7_3)) = false := bne_eq_false_iff_eq.mpr c23
                                clear c23
                                by_cases c24 : x6_4 = true
                                · subst c24
                                  have H1 : (certpathref07_AddressWithin.l0 k3 a0 a1 (wrap64 ((a1.size : Int) / 2)) true (wrap64 (x7_3 + 1))) = some r := by rw [if_pos rfl] at H; exact H
                                  clear H
                                  have H := H1
                                  clear H1
                                  have H' := Aside0.mk H
                                  clear H
                                  have p16 : 0 ≤ (x7_3 : Int) := of_decide_eq_true (by first | (with_reducible assumption) | assumption)
                                  have q16 : x7_3 < (a0.size : Int) := of_decide_eq_true (by first | (with_reducible assumption) | assumption)
                                  have hx16 := bt_at a0 x7_3
                                  replace p16 := eq_true p16
                                  replace q16 := eq_true q16
                                  have p20 : 0 ≤ ((ji17) : Int) := of_decide_eq_true (by first | (with_reducible assumption) | assumption)
                                  have q20 : (ji17) < (a1.size : Int) := of_decide_eq_true (by first | (with_reducible assumption) | assumption)
                                  have hx20 := bt_at a1 (ji17)
                                  replace p20 := eq_true p20
                                  replace q20 := eq_true q20
                                  have p22 : 0 ≤ (x7_3 : Int) := of_decide_eq_true (by first | (with_reducible assumption) | assumption)
                                  have q22 : x7_3 < (a1.size : Int) := of_decide_eq_true (by first | (with_reducible assumption) | assumption)
                                  have hx22 := bt_at a1 x7_3
                                  replace p22 := eq_true p22
                                  replace q22 := eq_true q22
                                  go_wp2
                                  repeat (go_quiet (fail); try go_wp2)
                                  go_roundg k3
                                  case measure => have := HJ4.out; have := HJ7.out; have := HK3.out; omega
                                  case rel => exact ⟨(wrap64 (x7_3 + 1)), (by first | rfl | (simp; done) | (simp [*]; done)), H', ⟨by have := HJ4.out; have := HJ7.out; have := HK3.out; omega⟩, by repeat (first | exact Drawn0.refl _ | apply Drawn0.step)⟩
                                · replace c24 := Bool.eq_false_iff.mpr c24
                                  subst c24
                                  have H1 : (if (ji17) < (a0.size : Int) then (if (Go.bits .and .u8 (bt a0 (ji17)) (bt a1 (ji17))) = (bt a1 (ji17)) then (certpathref07_AddressWithin.l0 k3 a0 a1 (wrap64 ((a1.size : Int) / 2)) false (wrap64 (x7_3 + 1))) else (some false)) else (none)) = some r := by rw [if_neg (show ¬ (false = true) by decide)] at H; exact H
                                  clear H
                                  have H := H1
                                  clear H1
                                  by_cases c25 : (ji17) < (a0.size : Int)
                                  · rw [if_pos c25] at H
                                    have c25b0 : decide ((ji17) < (a0.size : Int)) = true := decide_eq_true c25
                                    clear c25
                                    by_cases c29 : (Go.bits .and .u8 (bt a0 (ji17)) (bt a1 (ji17))) = (bt a1 (ji17))
                                    · rw [if_pos c29] at H
                                      have c29b0 : ((Go.bits .and .u8 (bt a0 (ji17)) (bt a1 (ji17))) == (bt a1 (ji17))) = true := beq_iff_eq.mpr c29
                                      have c29b1 : ((Go.bits .and .u8 (bt a0 (ji17)) (bt a1 (ji17))) != (bt a1 (ji17))) = false := bne_eq_false_iff_eq.mpr c29
                                      clear c29
                                      have H' := Aside0.mk H
                                      clear H
                                      have p16 : 0 ≤ (x7_3 : Int) := of_decide_eq_true (by first | (with_reducible assumption) | assumption)
                                      have q16 : x7_3 < (a0.size : Int) := of_decide_eq_true (by first | (with_reducible assumption) | assumption)
                                      have hx16 := bt_at a0 x7_3
                                      replace p16 := eq_true p16
                                      replace q16 := eq_true q16
                                      have p20 : 0 ≤ ((ji17) : Int) := of_decide_eq_true (by first | (with_reducible assumption) | assumption)
                                      have q20 : (ji17) < (a1.size : Int) := of_decide_eq_true (by first | (with_reducible assumption) | assumption)
                                      have hx20 := bt_at a1 (ji17)
                                      replace p20 := eq_true p20
                                      replace q20 := eq_true q20
                                      have p22 : 0 ≤ (x7_3 : Int) := of_decide_eq_true (by first | (with_reducible assumption) | assumption)
                                      have q22 : x7_3 < (a1.size : Int) := of_decide_eq_true (by first | (with_reducible assumption) | assumption)
                                      have hx22 := bt_at a1 x7_3
                                      replace p22 := eq_true p22
                                      replace q22 := eq_true q22
                                      have p26 : 0 ≤ ((ji17) : Int) := of_decide_eq_true (by first | (with_reducible assumption) | assumption)
                                      have q26 : (ji17) < (a0.size : Int) := of_decide_eq_true (by first | (with_reducible assumption) | assumption)
                                      have hx26 := bt_at a0 (ji17)
                                      replace p26 := eq_true p26
                                      replace q26 := eq_true q26
                                      have p27 : 0 ≤ ((ji17) : Int) := of_decide_eq_true (by first | (with_reducible assumption) | assumption)
                                      have q27 : (ji17) < (a1.size : Int) := of_decide_eq_true (by first | (with_reducible assumption) | assumption)
                                      have hx27 := bt_at a1 (ji17)
                                      replace p27 := eq_true p27
                                      replace q27 := eq_true q27
                                      have p28 : 0 ≤ ((ji17) : Int) := of_decide_eq_true (by first | (with_reducible assumption) | assumption)
                                      have q28 : (ji17) < (a1.size : Int) := of_decide_eq_true (by first | (with_reducible assumption) | assumption)
                                      have hx28 := bt_at a1 (ji17)
                                      replace p28 := eq_true p28
                                      replace q28 := eq_true q28
                                      go_wp2
                                      repeat (go_quiet (fail); try go_wp2)
                                      go_roundg k3
                                      case measure => have := HJ4.out; have := HJ7.out; have := HK3.out; omega
                                      case rel => exact ⟨(wrap64 (x7_3 + 1)), (by first | rfl | (simp; done) | (simp [*]; done)), H', ⟨by have := HJ4.out; have := HJ7.out; have := HK3.out; omega⟩, by repeat (first | exact Drawn0.refl _ | apply Drawn0.step)⟩
                                    · rw [if_neg c29] at H
                                      have c29b0 : ((Go.bits .and .u8 (bt a0 (ji17)) (bt a1 (ji17))) == (bt a1 (ji17))) = false := beq_eq_false_iff_ne.mpr c29
                                      have c29b1 : ((Go.bits .and .u8 (bt a0 (ji17)) (bt a1 (ji17))) != (bt a1 (ji17))) = true := bne_iff_ne.mpr c29
                                      obtain rfl := Option.some.inj H
                                      have p16 : 0 ≤ (x7_3 : Int) := of_decide_eq_true (by first | (with_reducible assumption) | assumption)
                                      have q16 : x7_3 < (a0.size : Int) := of_decide_eq_true (by first | (with_reducible assumption) | assumption)
                                      have hx16 := bt_at a0 x7_3
                                      replace p16 := eq_true p16
                                      replace q16 := eq_true q16
                                      have p20 : 0 ≤ ((ji17) : Int) := of_decide_eq_true (by first | (with_reducible assumption) | assumption)
                                      have q20 : (ji17) < (a1.size : Int) := of_decide_eq_true (by first | (with_reducible assumption) | assumption)
                                      have hx20 := bt_at a1 (ji17)
                                      replace p20 := eq_true p20
                                      replace q20 := eq_true q20
                                      have p22 : 0 ≤ (x7_3 : Int) := of_decide_eq_true (by first | (with_reducible assumption) | assumption)
                                      have q22 : x7_3 < (a1.size : Int) := of_decide_eq_true (by first | (with_reducible assumption) | assumption)
                                      have hx22 := bt_at a1 x7_3
                                      replace p22 := eq_true p22
                                      replace q22 := eq_true q22
                                      have p26 : 0 ≤ ((ji17) : Int) := of_decide_eq_true (by first | (with_reducible assumption) | assumption)
                                      have q26 : (ji17) < (a0.size : Int) := of_decide_eq_true (by first | (with_reducible assumption) | assumption)
                                      have hx26 := bt_at a0 (ji17)
                                      replace p26 := eq_true p26
                                      replace q26 := eq_true q26
                                      have p27 : 0 ≤ ((ji17) : Int) := of_decide_eq_true (by first | (with_reducible assumption) | assumption)
                                      have q27 : (ji17) < (a1.size : Int) := of_decide_eq_true (by first | (with_reducible assumption) | assumption)
                                      have hx27 := bt_at a1 (ji17)
                                      replace p27 := eq_true p27
                                      replace q27 := eq_true q27
                                      have p28 : 0 ≤ ((ji17) : Int) := of_decide_eq_true (by first | (with_reducible assumption) | assumption)
                                      have q28 : (ji17) < (a1.size : Int) := of_decide_eq_true (by first | (with_reducible assumption) | assumption)
                                      have hx28 := bt_at a1 (ji17)
                                      replace p28 := eq_true p28
                                      replace q28 := eq_true q28
                                      go_wp2
                                      repeat (go_quiet (fail); try go_wp2)
                                      go_ret
                                      exact ⟨by first | rfl | (simp; done) | (simp only [← hji17] <;> (first | rfl | (simp; done))) | (simp [*]; done), by repeat (first | exact Drawn0.refl _ | apply Drawn0.step)⟩
                                  · rw [if_neg c25] at H
                                    exact absurd H (by simp)
                              · rw [if_neg c23] at H
                                have c23b0 : ((Go.bits .and .u8 (bt a0 x7_3) (bt a1 (ji17))) == (bt a1 x7_3)) = false := beq_eq_false_iff_ne.mpr c23
                                have c23b1 : ((Go.bits .and .u8 (bt a0 x7_3) (bt a1 (ji17))) != (bt a1 x7_3)) = true := bne_iff_ne.mpr c23
                                obtain rfl := Option.some.inj H
                                have p16 : 0 ≤ (x7_3 : Int) := of_decide_eq_true (by first | (with_reducible assumption) | assumption)
                                have q16 : x7_3 < (a0.size : Int) := of_decide_eq_true (by first | (with_reducible assumption) | assumption)
                                have hx16 := bt_at a0 x7_3
                                replace p16 := eq_true p16
                                replace q16 := eq_true q16
                                have p20 : 0 ≤ ((ji17) : Int) := of_decide_eq_true (by first | (with_reducible assumption) | assumption)
                                have q20 : (ji17) < (a1.size : Int) := of_decide_eq_true (by first | (with_reducible assumption) | assumption)
                                have hx20 := bt_at a1 (ji17)
                                replace p20 := eq_true p20
                                replace q20 := eq_true q20
                                have p22 : 0 ≤ (x7_3 : Int) := of_decide_eq_true (by first | (with_reducible assumption) | assumption)
                                have q22 : x7_3 < (a1.size : Int) := of_decide_eq_true (by first | (with_reducible assumption) | assumption)
                                have hx22 := bt_at a1 x7_3
                                replace p22 := eq_true p22
                                replace q22 := eq_true q22
                                go_wp2
                                repeat (go_quiet (fail); try go_wp2)
                                go_ret
                                exact ⟨by first | rfl | (simp; done) | (simp only [← hji17] <;> (first | rfl | (simp; done))) | (simp [*]; done), by repeat (first | exact Drawn0.refl _ | apply Drawn0.step)⟩
                            · rw [if_neg c21] at H
                              exact absurd H (by simp)
                          · rw [if_neg c19] at H
                            exact absurd H (by simp)
                        · rw [if_neg c18] at H
                          exact absurd H (by simp)
                      · rw [if_neg c15] at H
                        exact absurd H (by simp)
                    · rw [if_neg c14] at H
                      exact absurd H (by simp)
                  · rw [if_neg c13] at H
                    have c13b0 : decide (x7_3 < (wrap64 ((a1.size : Int) / 2))) = false := decide_eq_false c13
                    clear c13
                    obtain rfl := Option.some.inj H
                    go_wp2
                    repeat (go_quiet (fail); try go_wp2)
                    go_ret
                    exact ⟨by first | rfl | (simp; done) | (simp [*]; done), by repeat (first | exact Drawn0.refl _ | apply Drawn0.step)⟩
  · replace c4 := Bool.eq_false_iff.mpr c4
    subst c4
    have H1 : (some false) = some r := by rw [if_neg (show ¬ (false = true) by decide)] at H; exact H
    clear H
    have H := H1
    clear H1
    obtain rfl := Option.some.inj H
    go_enter Tryd.func38, Tryd.ntmps38
    go_wp2_with (first | (go_at_call 36; (with_reducible refine (certpathref07_Range.calls k a1 false _ ?side1 A3.out).mono ?_); (case side1 => repeat (first | exact hG_ | apply Ext.G.drewN | apply Ext.G.drew)); rintro e w' ⟨rfl, ⟨nd, rfl⟩⟩; (try first | exact ⟨rfl, _, World.drewN_drewN _ _ _⟩ | exact ⟨rfl, _, Eq.trans (World.drewN_drewN _ _ _) (congrArg (World.drewN _) (Nat.add_assoc _ _ _))⟩)))
    repeat (go_quiet (first | (go_at_call 36; (with_reducible refine (certpathref07_Range.calls k a1 false _ ?side1 A3.out).mono ?_); (case side1 => repeat (first | exact hG_ | apply Ext.G.drewN | apply Ext.G.drew)); rintro e w' ⟨rfl, ⟨nd, rfl⟩⟩; (try first | exact ⟨rfl, _, World.drewN_drewN _ _ _⟩ | exact ⟨rfl, _, Eq.trans (World.drewN_drewN _ _ _) (congrArg (World.drewN _) (Nat.add_assoc _ _ _))⟩))); try go_wp2_with (first | (go_at_call 36; (with_reducible refine (certpathref07_Range.calls k a1 false _ ?side1 A3.out).mono ?_); (case side1 => repeat (first | exact hG_ | apply Ext.G.drewN | apply Ext.G.drew)); rintro e w' ⟨rfl, ⟨nd, rfl⟩⟩; (try first | exact ⟨rfl, _, World.drewN_drewN _ _ _⟩ | exact ⟨rfl, _, Eq.trans (World.drewN_drewN _ _ _) (congrArg (World.drewN _) (Nat.add_assoc _ _ _))⟩))))
    go_ret
    exact ⟨by first | rfl | (simp; done) | (simp [*]; done), by repeat (first | exact Drawn0.refl _ | apply Drawn0.step)⟩

end Go.Proofs.YtegmenlonpgnpaaDoor.Q
