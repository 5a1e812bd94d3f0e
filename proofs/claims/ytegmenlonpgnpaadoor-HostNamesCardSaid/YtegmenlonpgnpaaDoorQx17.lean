-- Written by a program of this session (wip/prn.py) out of the translation, for the seat YtegmenlonpgnpaaDoor. Not trusted: Lean checks it.
import Derived.Test.YtegmenlonpgnpaaDoorQx0
import Derived.Test.YtegmenlonpgnpaaDoorQx1
import Derived.Test.YtegmenlonpgnpaaDoorQx2
import Derived.Test.YtegmenlonpgnpaaDoorQx3
import Derived.Test.YtegmenlonpgnpaaDoorQx6
import Derived.Test.YtegmenlonpgnpaaDoorQx8
import Derived.Test.YtegmenlonpgnpaaDoorQx9
import Derived.Test.YtegmenlonpgnpaaDoorQx12
import Derived.Test.YtegmenlonpgnpaaDoorQx13
import Derived.Test.YtegmenlonpgnpaaDoorQx16
namespace Go.Proofs.YtegmenlonpgnpaaDoor.Q
open Go.RowKit Go.Proofs.YtegmenlonpgnpaaDoorW.PrintWords Go.Proofs.YtegmenlonpgnpaaDoorW.PrintLast Go.Proofs.YtegmenlonpgnpaaDoorW.PrintMore
attribute [local go_sem] max2_int min2_int max_two min_two max_three min_three max_four min_four   -- for this text's walks alone
set_option linter.unusedVariables false
set_option linter.unusedSimpArgs false

/-! ### certpathlaw08_HostNames: function 3 -/
def certpathlaw08_HostNames.l0 : Nat → List ByteArray → Int → Int → Option (Bool)
  | 0, _, _, _ => none
  | k + 1, x29, x30, x31 => if x31 < x30 then (if 0 ≤ x31 then (if x31 < (x29.length : Int) then ((host_DNS.f k (rdOf ByteArray.empty x29 x31)).bind fun t216 => ((certpathref07_DNS.f k (rdOf ByteArray.empty x29 x31)).bind fun t217 => (if (t216 != t217) = true then (some false) else ((host_Pattern.f k (rdOf ByteArray.empty x29 x31)).bind fun t218 => ((certpathref07_Pattern.f k (rdOf ByteArray.empty x29 x31)).bind fun t219 => (if (t218 != t219) = true then (some false) else ((host_Base.f k (rdOf ByteArray.empty x29 x31)).bind fun t220 => ((certpathref07_Base.f k (rdOf ByteArray.empty x29 x31)).bind fun t221 => (if (t220 != t221) = true then (some false) else ((host_Mail.f k (rdOf ByteArray.empty x29 x31)).bind fun t222 => ((certpathref07_Mail.f k (rdOf ByteArray.empty x29 x31)).bind fun t223 => (if (t222 != t223) = true then (some false) else ((host_MailBase.f k (rdOf ByteArray.empty x29 x31)).bind fun t224 => ((certpathref07_MailBase.f k (rdOf ByteArray.empty x29 x31)).bind fun t225 => (if (t224 != t225) = true then (some false) else (certpathlaw08_HostNames.l0 k x29 x30 (wrap64 (x31 + 1)))))))))))))))))) else (none)) else (none)) else ((certpathlaw08_awake.f k).bind fun t214 => (some t214))
def certpathlaw08_HostNames.f (k : Nat) (a0 : ByteArray) (l1 : List Int) : Option (Bool) := if (a0.size : Int) > 300 then ((certpathlaw08_awake.f k).bind fun t204 => (some t204)) else ((certpathlaw08_pieces.f k l1).bind fun t205 => ((certpathlaw08_pieces.f k l1).bind fun t206 => (if 2 + t206.size ≤ 9223372036854775807 then ((certpathlaw08_pieces.f k l1).bind fun t207 => (if 4 + t207.size ≤ 9223372036854775807 then ((certpathlaw08_pieces.f k l1).bind fun t208 => (if 1 + t208.size ≤ 9223372036854775807 then ((certpathlaw08_dns.f k l1).bind fun t209 => (if 2 + t209.size ≤ 9223372036854775807 then ((certpathlaw08_dns.f k l1).bind fun t210 => (if 4 + t210.size ≤ 9223372036854775807 then ((some (([a0, t205, (⟨#[42, 46]⟩ : ByteArray) ++ t206, (⟨#[97, 110, 110, 64]⟩ : ByteArray) ++ t207, (⟨#[46]⟩ : ByteArray) ++ t208, (⟨#[42, 46]⟩ : ByteArray) ++ t209, (⟨#[97, 46, 98, 64]⟩ : ByteArray) ++ t210] : List ByteArray) : List ByteArray)).bind fun y211 => (certpathlaw08_HostNames.l0 k y211 (y211.length : Int) 0)) else (none))) else (none))) else (none))) else (none))) else (none))))
theorem certpathlaw08_HostNames.mono_l : ∀ k, (∀ y0 y1 y2, LeO (certpathlaw08_HostNames.l0 k y0 y1 y2) (certpathlaw08_HostNames.l0 (k + 1) y0 y1 y2))
  | 0 => fun _ _ _ r h => by simp [certpathlaw08_HostNames.l0] at h
  | k + 1 => by
    have ih0 := certpathlaw08_HostNames.mono_l k
    · intro y0 y1 y2
      unfold certpathlaw08_HostNames.l0
      repeat' first
      | (with_reducible exact ih0 _ _ _)
      | (with_reducible exact certpathlaw08_awake.mono _)
      | (with_reducible exact certpathlaw08_dns.mono _ _)
      | (with_reducible exact certpathlaw08_pieces.mono _ _)
      | (with_reducible exact certpathref07_Base.mono _ _)
      | (with_reducible exact certpathref07_DNS.mono _ _)
      | (with_reducible exact certpathref07_Mail.mono _ _)
      | (with_reducible exact certpathref07_MailBase.mono _ _)
      | (with_reducible exact certpathref07_Pattern.mono _ _)
      | (with_reducible exact host_Base.mono _ _)
      | (with_reducible exact host_DNS.mono _ _)
      | (with_reducible exact host_Mail.mono _ _)
      | (with_reducible exact host_MailBase.mono _ _)
      | (with_reducible exact host_Pattern.mono _ _)
      | (with_reducible exact LeO.refl _)
      | (with_reducible exact LeO.none _)
      | (with_reducible refine LeO.ite ?_ ?_)
      | (with_reducible refine LeO.bind ?_ (fun _ => ?_))
      | exact ih0 _ _ _
      | exact certpathlaw08_awake.mono _
      | exact certpathlaw08_dns.mono _ _
      | exact certpathlaw08_pieces.mono _ _
      | exact certpathref07_Base.mono _ _
      | exact certpathref07_DNS.mono _ _
      | exact certpathref07_Mail.mono _ _
      | exact certpathref07_MailBase.mono _ _
      | exact certpathref07_Pattern.mono _ _
      | exact host_Base.mono _ _
      | exact host_DNS.mono _ _
      | exact host_Mail.mono _ _
      | exact host_MailBase.mono _ _
      | exact host_Pattern.mono _ _
      | exact LeO.none _
      | refine LeO.ite ?_ ?_
      | refine LeO.bind ?_ (fun _ => ?_)
theorem certpathlaw08_HostNames.mono : ∀ a0 a1 k, LeO (certpathlaw08_HostNames.f k a0 a1) (certpathlaw08_HostNames.f (k + 1) a0 a1) := by
  intro a0 a1 k
  have ih0 := certpathlaw08_HostNames.mono_l k
  unfold certpathlaw08_HostNames.f
  repeat' first
      | (with_reducible exact ih0 _ _ _)
      | (with_reducible exact certpathlaw08_awake.mono _)
      | (with_reducible exact certpathlaw08_dns.mono _ _)
      | (with_reducible exact certpathlaw08_pieces.mono _ _)
      | (with_reducible exact certpathref07_Base.mono _ _)
      | (with_reducible exact certpathref07_DNS.mono _ _)
      | (with_reducible exact certpathref07_Mail.mono _ _)
      | (with_reducible exact certpathref07_MailBase.mono _ _)
      | (with_reducible exact certpathref07_Pattern.mono _ _)
      | (with_reducible exact host_Base.mono _ _)
      | (with_reducible exact host_DNS.mono _ _)
      | (with_reducible exact host_Mail.mono _ _)
      | (with_reducible exact host_MailBase.mono _ _)
      | (with_reducible exact host_Pattern.mono _ _)
      | (with_reducible exact LeO.refl _)
      | (with_reducible exact LeO.none _)
      | (with_reducible refine LeO.ite ?_ ?_)
      | (with_reducible refine LeO.bind ?_ (fun _ => ?_))
      | exact ih0 _ _ _
      | exact certpathlaw08_awake.mono _
      | exact certpathlaw08_dns.mono _ _
      | exact certpathlaw08_pieces.mono _ _
      | exact certpathref07_Base.mono _ _
      | exact certpathref07_DNS.mono _ _
      | exact certpathref07_Mail.mono _ _
      | exact certpathref07_MailBase.mono _ _
      | exact certpathref07_Pattern.mono _ _
      | exact host_Base.mono _ _
      | exact host_DNS.mono _ _
      | exact host_Mail.mono _ _
      | exact host_MailBase.mono _ _
      | exact host_Pattern.mono _ _
      | exact LeO.none _
      | refine LeO.ite ?_ ?_
      | refine LeO.bind ?_ (fun _ => ?_)
set_option maxHeartbeats 8000000 in
set_option maxRecDepth 100000 in
theorem certpathlaw08_HostNames.calls (k : Nat) (a0 : ByteArray) (A1 : Option Addr) (c1 : Nat) (l1 : List Int) (r : Bool) (w : World) (hG_ : Ext.G w) (hr1 : Kd.C (Kd.int .u8) w A1 l1.length l1) (hc1 : l1.length ≤ c1) (h : certpathlaw08_HostNames.f k a0 l1 = some r) :
    Calls Tryd.prog 3 #[.string a0, .slice A1 l1.length c1] w fun e w' => e = .returned (.bool r) ∧ Below w.heap.size w w' := by
  have HR1 := Aside0.mk hr1
  have HC1 := Aside0.mk hc1
  clear hr1 hc1
  have HB := Aside0.mk (Below.refl w.heap.size w)
  have H : (if (a0.size : Int) > 300 then ((certpathlaw08_awake.f k).bind fun t204 => (some t204)) else ((certpathlaw08_pieces.f k l1).bind fun t205 => ((certpathlaw08_pieces.f k l1).bind fun t206 => (if 2 + t206.size ≤ 9223372036854775807 then ((certpathlaw08_pieces.f k l1).bind fun t207 => (if 4 + t207.size ≤ 9223372036854775807 then ((certpathlaw08_pieces.f k l1).bind fun t208 => (if 1 + t208.size ≤ 9223372036854775807 then ((certpathlaw08_dns.f k l1).bind fun t209 => (if 2 + t209.size ≤ 9223372036854775807 then ((certpathlaw08_dns.f k l1).bind fun t210 => (if 4 + t210.size ≤ 9223372036854775807 then ((some (([a0, t205, (⟨#[42, 46]⟩ : ByteArray) ++ t206, (⟨#[97, 110, 110, 64]⟩ : ByteArray) ++ t207, (⟨#[46]⟩ : ByteArray) ++ t208, (⟨#[42, 46]⟩ : ByteArray) ++ t209, (⟨#[97, 46, 98, 64]⟩ : ByteArray) ++ t210] : List ByteArray) : List ByteArray)).bind fun y211 => (certpathlaw08_HostNames.l0 k y211 (y211.length : Int) 0)) else (none))) else (none))) else (none))) else (none))) else (none))))) = some r := h
  clear h
  by_cases c3 : (a0.size : Int) > 300
  · rw [if_pos c3] at H
    have c3b0 : decide (300 < (a0.size : Int)) = true := decide_eq_true c3
    have c3b1 : decide (300 < a0.size) = true := decide_eq_true (by omega)
    clear c3
    replace H := Option.bind_eq_some_iff.mp H
    obtain ⟨t204, A40, H⟩ := H
    replace H : (some t204) = some r := H
    have A4 := Aside0.mk A40
    clear A40
    obtain rfl := Option.some.inj H
    go_enter Tryd.func3, Tryd.ntmps3
    go_wp2_with (first | ((with_reducible refine gate_callee (f := 10) rfl ?_); refine goesL_ (some 10) rfl rfl Tryd.func10 (by kernel_rfl) rfl #[] rfl (by (try simp only [List.map_toArray, List.map_cons, List.map_nil]); first | done | rfl | (simp only [List.length_drop, List.length_take]; rfl)) ?_; (with_reducible refine (certpathlaw08_awake.calls k  t204 _ ?side1 A4.out).mono ?_); (case side1 => refine Ext.G.step ?_ hG_; repeat (first | (with_reducible first | exact HB.out | apply below_alloc | apply pw_below_drewN | apply below_drew1) | exact HB.out)); rintro e w5 ⟨rfl, hb⟩; refine ⟨_, rfl, ?_⟩; have n0_ := Aside0.mk (below_step (by repeat (first | (with_reducible first | exact HB.out | apply below_alloc | apply pw_below_drewN | apply below_drew1) | exact HB.out)) hb); clear HB; have HB := n0_; clear n0_; (try clear hb); (try clear hb2); (try clear hk); (try clear hi)))
    go_ret
    exact ⟨by first | rfl | (simp [errW_none, errW_some] <;> rfl) | (simp [*, errW_none, errW_some] <;> rfl), by repeat (first | (with_reducible first | exact HB.out | apply below_alloc | apply pw_below_drewN | apply below_drew1) | exact HB.out)⟩
  · rw [if_neg c3] at H
    have c3b0 : decide (300 < (a0.size : Int)) = false := decide_eq_false c3
    have c3b1 : decide (300 < a0.size) = false := decide_eq_false (by omega)
    clear c3
    replace H := Option.bind_eq_some_iff.mp H
    obtain ⟨t205, A60, H⟩ := H
    replace H : ((certpathlaw08_pieces.f k l1).bind fun t206 => (if 2 + t206.size ≤ 9223372036854775807 then ((certpathlaw08_pieces.f k l1).bind fun t207 => (if 4 + t207.size ≤ 9223372036854775807 then ((certpathlaw08_pieces.f k l1).bind fun t208 => (if 1 + t208.size ≤ 9223372036854775807 then ((certpathlaw08_dns.f k l1).bind fun t209 => (if 2 + t209.size ≤ 9223372036854775807 then ((certpathlaw08_dns.f k l1).bind fun t210 => (if 4 + t210.size ≤ 9223372036854775807 then ((some (([a0, t205, (⟨#[42, 46]⟩ : ByteArray) ++ t206, (⟨#[97, 110, 110, 64]⟩ : ByteArray) ++ t207, (⟨#[46]⟩ : ByteArray) ++ t208, (⟨#[42, 46]⟩ : ByteArray) ++ t209, (⟨#[97, 46, 98, 64]⟩ : ByteArray) ++ t210] : List ByteArray) : List ByteArray)).bind fun y211 => (certpathlaw08_HostNames.l0 k y211 (y211.length : Int) 0)) else (none))) else (none))) else (none))) else (none))) else (none))) = some r := H
    have A6 := Aside0.mk A60
    clear A60
    replace H := Option.bind_eq_some_iff.mp H
    obtain ⟨t206, A70, H⟩ := H
    replace H : (if 2 + t206.size ≤ 9223372036854775807 then ((certpathlaw08_pieces.f k l1).bind fun t207 => (if 4 + t207.size ≤ 9223372036854775807 then ((certpathlaw08_pieces.f k l1).bind fun t208 => (if 1 + t208.size ≤ 9223372036854775807 then ((certpathlaw08_dns.f k l1).bind fun t209 => (if 2 + t209.size ≤ 9223372036854775807 then ((certpathlaw08_dns.f k l1).bind fun t210 => (if 4 + t210.size ≤ 9223372036854775807 then ((some (([a0, t205, (⟨#[42, 46]⟩ : ByteArray) ++ t206, (⟨#[97, 110, 110, 64]⟩ : ByteArray) ++ t207, (⟨#[46]⟩ : ByteArray) ++ t208, (⟨#[42, 46]⟩ : ByteArray) ++ t209, (⟨#[97, 46, 98, 64]⟩ : ByteArray) ++ t210] : List ByteArray) : List ByteArray)).bind fun y211 => (certpathlaw08_HostNames.l0 k y211 (y211.length : Int) 0)) else (none))) else (none))) else (none))) else (none))) else (none)) = some r := H
    have A7 := Aside0.mk A70
    clear A70
    by_cases c8 : 2 + t206.size ≤ 9223372036854775807
    · rw [if_pos c8] at H
      have c8b0 := eq_true c8
      have c8b1 : decide (2 + t206.size ≤ 9223372036854775807) = true := decide_eq_true c8
      try have c8b2 : (9223372036854775807 < 2 + t206.size) = False := eq_false (Nat.not_lt.2 c8)
      replace H := Option.bind_eq_some_iff.mp H
      obtain ⟨t207, A90, H⟩ := H
      replace H : (if 4 + t207.size ≤ 9223372036854775807 then ((certpathlaw08_pieces.f k l1).bind fun t208 => (if 1 + t208.size ≤ 9223372036854775807 then ((certpathlaw08_dns.f k l1).bind fun t209 => (if 2 + t209.size ≤ 9223372036854775807 then ((certpathlaw08_dns.f k l1).bind fun t210 => (if 4 + t210.size ≤ 9223372036854775807 then ((some (([a0, t205, (⟨#[42, 46]⟩ : ByteArray) ++ t206, (⟨#[97, 110, 110, 64]⟩ : ByteArray) ++ t207, (⟨#[46]⟩ : ByteArray) ++ t208, (⟨#[42, 46]⟩ : ByteArray) ++ t209, (⟨#[97, 46, 98, 64]⟩ : ByteArray) ++ t210] : List ByteArray) : List ByteArray)).bind fun y211 => (certpathlaw08_HostNames.l0 k y211 (y211.length : Int) 0)) else (none))) else (none))) else (none))) else (none)) = some r := H
      have A9 := Aside0.mk A90
      clear A90
      by_cases c10 : 4 + t207.size ≤ 9223372036854775807
      · rw [if_pos c10] at H
        have c10b0 := eq_true c10
        have c10b1 : decide (4 + t207.size ≤ 9223372036854775807) = true := decide_eq_true c10
        try have c10b2 : (9223372036854775807 < 4 + t207.size) = False := eq_false (Nat.not_lt.2 c10)
        replace H := Option.bind_eq_some_iff.mp H
        obtain ⟨t208, A110, H⟩ := H
        replace H : (if 1 + t208.size ≤ 9223372036854775807 then ((certpathlaw08_dns.f k l1).bind fun t209 => (if 2 + t209.size ≤ 9223372036854775807 then ((certpathlaw08_dns.f k l1).bind fun t210 => (if 4 + t210.size ≤ 9223372036854775807 then ((some (([a0, t205, (⟨#[42, 46]⟩ : ByteArray) ++ t206, (⟨#[97, 110, 110, 64]⟩ : ByteArray) ++ t207, (⟨#[46]⟩ : ByteArray) ++ t208, (⟨#[42, 46]⟩ : ByteArray) ++ t209, (⟨#[97, 46, 98, 64]⟩ : ByteArray) ++ t210] : List ByteArray) : List ByteArray)).bind fun y211 => (certpathlaw08_HostNames.l0 k y211 (y211.length : Int) 0)) else (none))) else (none))) else (none)) = some r := H
        have A11 := Aside0.mk A110
        clear A110
        by_cases c12 : 1 + t208.size ≤ 9223372036854775807
        · rw [if_pos c12] at H
          have c12b0 := eq_true c12
          have c12b1 : decide (1 + t208.size ≤ 9223372036854775807) = true := decide_eq_true c12
          try have c12b2 : (9223372036854775807 < 1 + t208.size) = False := eq_false (Nat.not_lt.2 c12)
          replace H := Option.bind_eq_some_iff.mp H
          obtain ⟨t209, A130, H⟩ := H
          replace H : (if 2 + t209.size ≤ 9223372036854775807 then ((certpathlaw08_dns.f k l1).bind fun t210 => (if 4 + t210.size ≤ 9223372036854775807 then ((some (([a0, t205, (⟨#[42, 46]⟩ : ByteArray) ++ t206, (⟨#[97, 110, 110, 64]⟩ : ByteArray) ++ t207, (⟨#[46]⟩ : ByteArray) ++ t208, (⟨#[42, 46]⟩ : ByteArray) ++ t209, (⟨#[97, 46, 98, 64]⟩ : ByteArray) ++ t210] : List ByteArray) : List ByteArray)).bind fun y211 => (certpathlaw08_HostNames.l0 k y211 (y211.length : Int) 0)) else (none))) else (none)) = some r := H
          have A13 := Aside0.mk A130
          clear A130
          by_cases c14 : 2 + t209.size ≤ 9223372036854775807
          · rw [if_pos c14] at H
            have c14b0 := eq_true c14
            have c14b1 : decide (2 + t209.size ≤ 9223372036854775807) = true := decide_eq_true c14
            try have c14b2 : (9223372036854775807 < 2 + t209.size) = False := eq_false (Nat.not_lt.2 c14)
            replace H := Option.bind_eq_some_iff.mp H
            obtain ⟨t210, A150, H⟩ := H
            replace H : (if 4 + t210.size ≤ 9223372036854775807 then ((some (([a0, t205, (⟨#[42, 46]⟩ : ByteArray) ++ t206, (⟨#[97, 110, 110, 64]⟩ : ByteArray) ++ t207, (⟨#[46]⟩ : ByteArray) ++ t208, (⟨#[42, 46]⟩ : ByteArray) ++ t209, (⟨#[97, 46, 98, 64]⟩ : ByteArray) ++ t210] : List ByteArray) : List ByteArray)).bind fun y211 => (certpathlaw08_HostNames.l0 k y211 (y211.length : Int) 0)) else (none)) = some r := H
            have A15 := Aside0.mk A150
            clear A150
            by_cases c16 : 4 + t210.size ≤ 9223372036854775807
            · rw [if_pos c16] at H
              have c16b0 := eq_true c16
              have c16b1 : decide (4 + t210.size ≤ 9223372036854775807) = true := decide_eq_true c16
              try have c16b2 : (9223372036854775807 < 4 + t210.size) = False := eq_false (Nat.not_lt.2 c16)
              obtain ⟨y211, hy211⟩ : ∃ y_ : List ByteArray, y_ = (([a0, t205, (⟨#[42, 46]⟩ : ByteArray) ++ t206, (⟨#[97, 110, 110, 64]⟩ : ByteArray) ++ t207, (⟨#[46]⟩ : ByteArray) ++ t208, (⟨#[42, 46]⟩ : ByteArray) ++ t209, (⟨#[97, 46, 98, 64]⟩ : ByteArray) ++ t210] : List ByteArray)) := ⟨_, rfl⟩
              replace H : (certpathlaw08_HostNames.l0 k y211 (y211.length : Int) 0) = some r := by first | (rw [hy211]; with_reducible exact H) | (have H2_ := (Option.bind_some _ _).symm.trans H; rw [hy211]; with_reducible exact H2_) | (have H2_ := (Option.bind_some _ _).symm.trans H; with_reducible exact H2_) | with_reducible exact H | (rw [hy211]; exact H) | exact H
              have Ny211 := Aside0.mk hy211
              clear hy211
              have H' := Aside0.mk H
              clear H
              go_enter Tryd.func3, Tryd.ntmps3
              go_wp2_with (first | ((with_reducible refine gate_callee (f := 11) rfl ?_); refine goesL_ (some 13) rfl rfl Tryd.func11 (by kernel_rfl) rfl #[.slice A1 l1.length c1] rfl (by (try simp only [List.map_toArray, List.map_cons, List.map_nil]); first | done | rfl | (simp only [List.length_drop, List.length_take]; rfl)) ?_; (with_reducible refine (certpathlaw08_pieces.calls k _ _ l1 t205 _ ?side1 ?side2 ?side3 A6.out).mono ?_); (case side1 => refine Ext.G.step ?_ hG_; repeat (first | (with_reducible first | exact HB.out | apply below_alloc | apply pw_below_drewN | apply below_drew1) | exact HB.out)); (case side2 => repeat (first | exact HR1.out | (with_reducible refine Kd.C_alloc ?_ _) | (with_reducible refine Kd.C_drewN ?_ _) | (with_reducible refine Kd.C_drew ?_))); (case side3 => exact HC1.out); rintro e w17 ⟨rfl, hb⟩; refine ⟨_, rfl, ?_⟩; have n0_ := Aside0.mk (below_step (by repeat (first | (with_reducible first | exact HB.out | apply below_alloc | apply pw_below_drewN | apply below_drew1) | exact HB.out)) hb); clear HB; have HB := n0_; clear n0_; (try clear hb); (try clear hb2); (try clear hk); (try clear hi)) | ((with_reducible refine gate_callee (f := 11) rfl ?_); refine goesL_ (some 15) rfl rfl Tryd.func11 (by kernel_rfl) rfl #[.slice A1 l1.length c1] rfl (by (try simp only [List.map_toArray, List.map_cons, List.map_nil]); first | done | rfl | (simp only [List.length_drop, List.length_take]; rfl)) ?_; (with_reducible refine (certpathlaw08_pieces.calls k _ _ l1 t206 _ ?side1 ?side2 ?side3 A7.out).mono ?_); (case side1 => refine Ext.G.step ?_ hG_; repeat (first | (with_reducible first | exact HB.out | apply below_alloc | apply pw_below_drewN | apply below_drew1) | exact HB.out)); (case side2 => repeat (first | exact (Kd.C_below HR1.out HB.out) | (with_reducible refine Kd.C_alloc ?_ _) | (with_reducible refine Kd.C_drewN ?_ _) | (with_reducible refine Kd.C_drew ?_))); (case side3 => exact HC1.out); rintro e w18 ⟨rfl, hb⟩; refine ⟨_, rfl, ?_⟩; have n0_ := Aside0.mk (below_step (by repeat (first | (with_reducible first | exact HB.out | apply below_alloc | apply pw_below_drewN | apply below_drew1) | exact HB.out)) hb); clear HB; have HB := n0_; clear n0_; (try clear hb); (try clear hb2); (try clear hk); (try clear hi)) | ((with_reducible refine gate_callee (f := 11) rfl ?_); refine goesL_ (some 18) rfl rfl Tryd.func11 (by kernel_rfl) rfl #[.slice A1 l1.length c1] rfl (by (try simp only [List.map_toArray, List.map_cons, List.map_nil]); first | done | rfl | (simp only [List.length_drop, List.length_take]; rfl)) ?_; (with_reducible refine (certpathlaw08_pieces.calls k _ _ l1 t207 _ ?side1 ?side2 ?side3 A9.out).mono ?_); (case side1 => refine Ext.G.step ?_ hG_; repeat (first | (with_reducible first | exact HB.out | apply below_alloc | apply pw_below_drewN | apply below_drew1) | exact HB.out)); (case side2 => repeat (first | exact (Kd.C_below HR1.out HB.out) | (with_reducible refine Kd.C_alloc ?_ _) | (with_reducible refine Kd.C_drewN ?_ _) | (with_reducible refine Kd.C_drew ?_))); (case side3 => exact HC1.out); rintro e w19 ⟨rfl, hb⟩; refine ⟨_, rfl, ?_⟩; have n0_ := Aside0.mk (below_step (by repeat (first | (with_reducible first | exact HB.out | apply below_alloc | apply pw_below_drewN | apply below_drew1) | exact HB.out)) hb); clear HB; have HB := n0_; clear n0_; (try clear hb); (try clear hb2); (try clear hk); (try clear hi)) | ((with_reducible refine gate_callee (f := 11) rfl ?_); refine goesL_ (some 21) rfl rfl Tryd.func11 (by kernel_rfl) rfl #[.slice A1 l1.length c1] rfl (by (try simp only [List.map_toArray, List.map_cons, List.map_nil]); first | done | rfl | (simp only [List.length_drop, List.length_take]; rfl)) ?_; (with_reducible refine (certpathlaw08_pieces.calls k _ _ l1 t208 _ ?side1 ?side2 ?side3 A11.out).mono ?_); (case side1 => refine Ext.G.step ?_ hG_; repeat (first | (with_reducible first | exact HB.out | apply below_alloc | apply pw_below_drewN | apply below_drew1) | exact HB.out)); (case side2 => repeat (first | exact (Kd.C_below HR1.out HB.out) | (with_reducible refine Kd.C_alloc ?_ _) | (with_reducible refine Kd.C_drewN ?_ _) | (with_reducible refine Kd.C_drew ?_))); (case side3 => exact HC1.out); rintro e w20 ⟨rfl, hb⟩; refine ⟨_, rfl, ?_⟩; have n0_ := Aside0.mk (below_step (by repeat (first | (with_reducible first | exact HB.out | apply below_alloc | apply pw_below_drewN | apply below_drew1) | exact HB.out)) hb); clear HB; have HB := n0_; clear n0_; (try clear hb); (try clear hb2); (try clear hk); (try clear hi)) | ((with_reducible refine gate_callee (f := 12) rfl ?_); refine goesL_ (some 24) rfl rfl Tryd.func12 (by kernel_rfl) rfl #[.slice A1 l1.length c1] rfl (by (try simp only [List.map_toArray, List.map_cons, List.map_nil]); first | done | rfl | (simp only [List.length_drop, List.length_take]; rfl)) ?_; (with_reducible refine (certpathlaw08_dns.calls k _ _ l1 t209 _ ?side1 ?side2 ?side3 A13.out).mono ?_); (case side1 => refine Ext.G.step ?_ hG_; repeat (first | (with_reducible first | exact HB.out | apply below_alloc | apply pw_below_drewN | apply below_drew1) | exact HB.out)); (case side2 => repeat (first | exact (Kd.C_below HR1.out HB.out) | (with_reducible refine Kd.C_alloc ?_ _) | (with_reducible refine Kd.C_drewN ?_ _) | (with_reducible refine Kd.C_drew ?_))); (case side3 => exact HC1.out); rintro e w21 ⟨rfl, hb⟩; refine ⟨_, rfl, ?_⟩; have n0_ := Aside0.mk (below_step (by repeat (first | (with_reducible first | exact HB.out | apply below_alloc | apply pw_below_drewN | apply below_drew1) | exact HB.out)) hb); clear HB; have HB := n0_; clear n0_; (try clear hb); (try clear hb2); (try clear hk); (try clear hi)) | ((with_reducible refine gate_callee (f := 12) rfl ?_); refine goesL_ (some 27) rfl rfl Tryd.func12 (by kernel_rfl) rfl #[.slice A1 l1.length c1] rfl (by (try simp only [List.map_toArray, List.map_cons, List.map_nil]); first | done | rfl | (simp only [List.length_drop, List.length_take]; rfl)) ?_; (with_reducible refine (certpathlaw08_dns.calls k _ _ l1 t210 _ ?side1 ?side2 ?side3 A15.out).mono ?_); (case side1 => refine Ext.G.step ?_ hG_; repeat (first | (with_reducible first | exact HB.out | apply below_alloc | apply pw_below_drewN | apply below_drew1) | exact HB.out)); (case side2 => repeat (first | exact (Kd.C_below HR1.out HB.out) | (with_reducible refine Kd.C_alloc ?_ _) | (with_reducible refine Kd.C_drewN ?_ _) | (with_reducible refine Kd.C_drew ?_))); (case side3 => exact HC1.out); rintro e w22 ⟨rfl, hb⟩; refine ⟨_, rfl, ?_⟩; have n0_ := Aside0.mk (below_step (by repeat (first | (with_reducible first | exact HB.out | apply below_alloc | apply pw_below_drewN | apply below_drew1) | exact HB.out)) hb); clear HB; have HB := n0_; clear n0_; (try clear hb); (try clear hb2); (try clear hk); (try clear hi)) | ((with_reducible refine gate_dst (N := 29) rfl ?_); refine Kd.R_lit Kd.string _ 9 ?hg (N := 29) ?hd (xs := ([a0, t205, (⟨#[42, 46]⟩ : ByteArray) ++ t206, (⟨#[97, 110, 110, 64]⟩ : ByteArray) ++ t207, (⟨#[46]⟩ : ByteArray) ++ t208, (⟨#[42, 46]⟩ : ByteArray) ++ t209, (⟨#[97, 46, 98, 64]⟩ : ByteArray) ++ t210] : List ByteArray)) (inner := [.string a0, .string t205, .string ((⟨#[42, 46]⟩ : ByteArray) ++ t206), .string ((⟨#[97, 110, 110, 64]⟩ : ByteArray) ++ t207), .string ((⟨#[46]⟩ : ByteArray) ++ t208), .string ((⟨#[42, 46]⟩ : ByteArray) ++ t209), .string ((⟨#[97, 46, 98, 64]⟩ : ByteArray) ++ t210)]) (ok := fun _ => True) (okp := fun _ => True) ?hr ?hp (fun _ hk => hk) trivial (Below.refl _ _) (Nat.le_refl _) (by simp) ?_; (case hd => rfl); (case hg => rfl); (case hr => first | (go_simp; done) | (go_simp; rfl)); (case hp => exact (Reps.one (show Kd.M Kd.string _ _ _ a0 [.string a0] from rfl) (Reps.one (show Kd.M Kd.string _ _ _ t205 [.string t205] from rfl) (Reps.one (show Kd.M Kd.string _ _ _ ((⟨#[42, 46]⟩ : ByteArray) ++ t206) [.string ((⟨#[42, 46]⟩ : ByteArray) ++ t206)] from rfl) (Reps.one (show Kd.M Kd.string _ _ _ ((⟨#[97, 110, 110, 64]⟩ : ByteArray) ++ t207) [.string ((⟨#[97, 110, 110, 64]⟩ : ByteArray) ++ t207)] from rfl) (Reps.one (show Kd.M Kd.string _ _ _ ((⟨#[46]⟩ : ByteArray) ++ t208) [.string ((⟨#[46]⟩ : ByteArray) ++ t208)] from rfl) (Reps.one (show Kd.M Kd.string _ _ _ ((⟨#[42, 46]⟩ : ByteArray) ++ t209) [.string ((⟨#[42, 46]⟩ : ByteArray) ++ t209)] from rfl) (Reps.one (show Kd.M Kd.string _ _ _ ((⟨#[97, 46, 98, 64]⟩ : ByteArray) ++ t210) [.string ((⟨#[97, 46, 98, 64]⟩ : ByteArray) ++ t210)] from rfl) (Reps.none _ _))))))))); intro v212 w23 ho24 hb hg_ hnew_; clear hg_ hnew_; (first | rw [← Ny211.out] at ho24 | (simp only [Int.reduceToNat] at ho24; rw [← Ny211.out] at ho24)); have n0_ := Aside0.mk (Kd.R_lower ho24 (below_size (by repeat (first | (with_reducible first | exact HB.out | apply below_alloc | apply pw_below_drewN | apply below_drew1) | exact HB.out)))); have n1_ := Aside0.mk (below_step (by repeat (first | (with_reducible first | exact HB.out | apply below_alloc | apply pw_below_drewN | apply below_drew1) | exact HB.out)) hb); clear HB; have HO213 := n0_; have HB := n1_; clear n0_ n1_; clear hb ho24; obtain ⟨Ao25, co25, eo25⟩ := Kd.R_slice HO213.out; subst eo25))
              go_loopg [31] k (fun kq v31 w' => ∃ (x31_1 : Int), v31 = .int .i64 x31_1 ∧ Aside0 (certpathlaw08_HostNames.l0 kq y211 (y211.length : Int) x31_1 = some r) ∧ Aside0 (kq ≤ k) ∧ Aside0 (Kd.R Kd.string 9 w' w.heap.size (fun _ => True) (.slice Ao25 y211.length co25) y211) ∧ Aside0 (Below w.heap.size w w'))
              case atStart => exact ⟨(0), (by first | rfl | (simp; done) | (simp [*]; done)), H', ⟨Nat.le_refl _⟩, ⟨by (with_reducible repeat (first | apply Kd.R_alloc | apply Kd.R_drewN | apply Kd.R_drew)); exact HO213.out⟩, ⟨by repeat (first | (with_reducible first | exact HB.out | apply below_alloc | apply pw_below_drewN | apply below_drew1) | exact HB.out)⟩⟩
              case round =>
                clear H'
                try clear c1
                try clear p2
                try clear c3
                try clear c3b0
                try clear c3b1
                try clear c8
                try clear c8b0
                try clear c8b1
                try clear c8b2
                try clear c10
                try clear c10b0
                try clear c10b1
                try clear c10b2
                try clear c11
                try clear c12
                try clear c12b0
                try clear c12b1
                try clear c12b2
                try clear c14
                try clear c14b0
                try clear c14b1
                try clear c14b2
                try clear c16
                try clear c16b0
                try clear c16b1
                try clear c16b2
                obtain ⟨x31_1, rfl, HA, HK1, HO_29, HB⟩ := hrel
                cases gk with
                | zero => exact absurd HA.out (by simp [certpathlaw08_HostNames.l0])
                | succ k1 =>
                  have H := HA.out
                  clear HA
                  simp only [certpathlaw08_HostNames.l0] at H
                  by_cases c26 : x31_1 < (y211.length : Int)
                  · rw [if_pos c26] at H
                    have c26b0 : decide (x31_1 < (y211.length : Int)) = true := decide_eq_true c26
                    clear c26
                    by_cases c27 : 0 ≤ x31_1
                    · rw [if_pos c27] at H
                      have c27b0 : decide (0 ≤ x31_1) = true := decide_eq_true c27
                      clear c27
                      by_cases c28 : x31_1 < (y211.length : Int)
                      · rw [if_pos c28] at H
                        have c28b0 : decide (x31_1 < (y211.length : Int)) = true := decide_eq_true c28
                        clear c28
                        replace H := Option.bind_eq_some_iff.mp H
                        obtain ⟨t216, A290, H⟩ := H
                        replace H : ((certpathref07_DNS.f k1 (rdOf ByteArray.empty y211 x31_1)).bind fun t217 => (if (t216 != t217) = true then (some false) else ((host_Pattern.f k1 (rdOf ByteArray.empty y211 x31_1)).bind fun t218 => ((certpathref07_Pattern.f k1 (rdOf ByteArray.empty y211 x31_1)).bind fun t219 => (if (t218 != t219) = true then (some false) else ((host_Base.f k1 (rdOf ByteArray.empty y211 x31_1)).bind fun t220 => ((certpathref07_Base.f k1 (rdOf ByteArray.empty y211 x31_1)).bind fun t221 => (if (t220 != t221) = true then (some false) else ((host_Mail.f k1 (rdOf ByteArray.empty y211 x31_1)).bind fun t222 => ((certpathref07_Mail.f k1 (rdOf ByteArray.empty y211 x31_1)).bind fun t223 => (if (t222 != t223) = true then (some false) else ((host_MailBase.f k1 (rdOf ByteArray.empty y211 x31_1)).bind fun t224 => ((certpathref07_MailBase.f k1 (rdOf ByteArray.empty y211 x31_1)).bind fun t225 => (if (t224 != t225) = true then (some false) else (certpathlaw08_HostNames.l0 k1 y211 (y211.length : Int) (wrap64 (x31_1 + 1))))))))))))))))) = some r := H
                        have A29 := Aside0.mk A290
                        clear A290
                        replace H := Option.bind_eq_some_iff.mp H
                        obtain ⟨t217, A300, H⟩ := H
                        replace H : (if (t216 != t217) = true then (some false) else ((host_Pattern.f k1 (rdOf ByteArray.empty y211 x31_1)).bind fun t218 => ((certpathref07_Pattern.f k1 (rdOf ByteArray.empty y211 x31_1)).bind fun t219 => (if (t218 != t219) = true then (some false) else ((host_Base.f k1 (rdOf ByteArray.empty y211 x31_1)).bind fun t220 => ((certpathref07_Base.f k1 (rdOf ByteArray.empty y211 x31_1)).bind fun t221 => (if (t220 != t221) = true then (some false) else ((host_Mail.f k1 (rdOf ByteArray.empty y211 x31_1)).bind fun t222 => ((certpathref07_Mail.f k1 (rdOf ByteArray.empty y211 x31_1)).bind fun t223 => (if (t222 != t223) = true then (some false) else ((host_MailBase.f k1 (rdOf ByteArray.empty y211 x31_1)).bind fun t224 => ((certpathref07_MailBase.f k1 (rdOf ByteArray.empty y211 x31_1)).bind fun t225 => (if (t224 != t225) = true then (some false) else (certpathlaw08_HostNames.l0 k1 y211 (y211.length : Int) (wrap64 (x31_1 + 1)))))))))))))))) = some r := H
                        have A30 := Aside0.mk A300
                        clear A300
                        by_cases c31 : (t216 != t217) = true
                        · rw [if_pos c31] at H
                          have c31b0 : (t216 != t217) = true := c31
                          (try (have c31b1 : decide (t216 = t217) = false := by simpa using c31))
                          (try (have c31b2 : (t216 == t217) = false := by simpa using c31))
                          (try (have c31b3 : ¬ (t216 = t217) := by simpa using c31))
                          clear c31
                          obtain rfl := Option.some.inj H
                          have p215 : 0 ≤ (x31_1 : Int) := of_decide_eq_true (by first | (with_reducible assumption) | assumption)
                          have q215 : x31_1 < (y211.length : Int) := of_decide_eq_true (by first | (with_reducible assumption) | assumption)
                          obtain ⟨ad215, e215, hx215_0⟩ := Kd.at_string (Kd.R_reads' HO_29.out).2.2 x31_1 p215 q215
                          cases e215
                          replace p215 := eq_true p215
                          replace q215 := eq_true q215
                          go_wp2_with (first | ((with_reducible refine gate_callee (f := 13) rfl ?_); refine goesL_ (some 36) rfl rfl Tryd.func13 (by kernel_rfl) rfl #[.string (rdOf ByteArray.empty y211 x31_1)] rfl (by (try simp only [List.map_toArray, List.map_cons, List.map_nil]); first | done | rfl | (simp only [List.length_drop, List.length_take]; rfl)) ?_; (with_reducible refine (host_DNS.calls k1 (rdOf ByteArray.empty y211 x31_1) t216 _ ?side1 A29.out).mono ?_); (case side1 => refine Ext.G.step ?_ hG_; repeat (first | (with_reducible first | exact HB.out | apply below_alloc | apply pw_below_drewN | apply below_drew1) | exact HB.out)); rintro e w32 ⟨rfl, hb⟩; refine ⟨_, rfl, ?_⟩; have n0_ := Aside0.mk (Kd.R_below (by (with_reducible repeat (first | apply Kd.R_alloc | apply Kd.R_drewN | apply Kd.R_drew)); exact HO_29.out) hb); have n1_ := Aside0.mk (below_step (by repeat (first | (with_reducible first | exact HB.out | apply below_alloc | apply pw_below_drewN | apply below_drew1) | exact HB.out)) hb); clear HO_29; clear HB; have HO_29 := n0_; have HB := n1_; clear n0_ n1_; (try clear hb); (try clear hb2); (try clear hk); (try clear hi)) | ((with_reducible refine gate_callee (f := 14) rfl ?_); refine goesL_ (some 38) rfl rfl Tryd.func14 (by kernel_rfl) rfl #[.string (rdOf ByteArray.empty y211 x31_1)] rfl (by (try simp only [List.map_toArray, List.map_cons, List.map_nil]); first | done | rfl | (simp only [List.length_drop, List.length_take]; rfl)) ?_; (with_reducible refine (certpathref07_DNS.calls k1 (rdOf ByteArray.empty y211 x31_1) t217 _ ?side1 A30.out).mono ?_); (case side1 => refine Ext.G.step ?_ hG_; repeat (first | (with_reducible first | exact HB.out | apply below_alloc | apply pw_below_drewN | apply below_drew1) | exact HB.out)); rintro e w33 ⟨rfl, hb⟩; refine ⟨_, rfl, ?_⟩; have n0_ := Aside0.mk (Kd.R_below (by (with_reducible repeat (first | apply Kd.R_alloc | apply Kd.R_drewN | apply Kd.R_drew)); exact HO_29.out) hb); have n1_ := Aside0.mk (below_step (by repeat (first | (with_reducible first | exact HB.out | apply below_alloc | apply pw_below_drewN | apply below_drew1) | exact HB.out)) hb); clear HO_29; clear HB; have HO_29 := n0_; have HB := n1_; clear n0_ n1_; (try clear hb); (try clear hb2); (try clear hk); (try clear hi)))
                          go_ret
                          exact ⟨by first | rfl | (simp [errW_none, errW_some] <;> rfl) | (simp [*, errW_none, errW_some] <;> rfl), by repeat (first | (with_reducible first | exact HB.out | apply below_alloc | apply pw_below_drewN | apply below_drew1) | exact HB.out)⟩
                        · rw [if_neg c31] at H
                          have c31b0 : (t216 != t217) = false := by simpa using c31
                          (try (have c31b1 : decide (t216 = t217) = true := by simpa using c31))
                          (try (have c31b2 : (t216 == t217) = true := by simpa using c31))
                          clear c31
                          replace H := Option.bind_eq_some_iff.mp H
                          obtain ⟨t218, A340, H⟩ := H
                          replace H : ((certpathref07_Pattern.f k1 (rdOf ByteArray.empty y211 x31_1)).bind fun t219 => (if (t218 != t219) = true then (some false) else ((host_Base.f k1 (rdOf ByteArray.empty y211 x31_1)).bind fun t220 => ((certpathref07_Base.f k1 (rdOf ByteArray.empty y211 x31_1)).bind fun t221 => (if (t220 != t221) = true then (some false) else ((host_Mail.f k1 (rdOf ByteArray.empty y211 x31_1)).bind fun t222 => ((certpathref07_Mail.f k1 (rdOf ByteArray.empty y211 x31_1)).bind fun t223 => (if (t222 != t223) = true then (some false) else ((host_MailBase.f k1 (rdOf ByteArray.empty y211 x31_1)).bind fun t224 => ((certpathref07_MailBase.f k1 (rdOf ByteArray.empty y211 x31_1)).bind fun t225 => (if (t224 != t225) = true then (some false) else (certpathlaw08_HostNames.l0 k1 y211 (y211.length : Int) (wrap64 (x31_1 + 1)))))))))))))) = some r := H
                          have A34 := Aside0.mk A340
                          clear A340
                          replace H := Option.bind_eq_some_iff.mp H
                          obtain ⟨t219, A350, H⟩ := H
                          replace H : (if (t218 != t219) = true then (some false) else ((host_Base.f k1 (rdOf ByteArray.empty y211 x31_1)).bind fun t220 => ((certpathref07_Base.f k1 (rdOf ByteArray.empty y211 x31_1)).bind fun t221 => (if (t220 != t221) = true then (some false) else ((host_Mail.f k1 (rdOf ByteArray.empty y211 x31_1)).bind fun t222 => ((certpathref07_Mail.f k1 (rdOf ByteArray.empty y211 x31_1)).bind fun t223 => (if (t222 != t223) = true then (some false) else ((host_MailBase.f k1 (rdOf ByteArray.empty y211 x31_1)).bind fun t224 => ((certpathref07_MailBase.f k1 (rdOf ByteArray.empty y211 x31_1)).bind fun t225 => (if (t224 != t225) = true then (some false) else (certpathlaw08_HostNames.l0 k1 y211 (y211.length : Int) (wrap64 (x31_1 + 1))))))))))))) = some r := H
                          have A35 := Aside0.mk A350
                          clear A350
                          by_cases c36 : (t218 != t219) = true
                          · rw [if_pos c36] at H
                            have c36b0 : (t218 != t219) = true := c36
                            (try (have c36b1 : decide (t218 = t219) = false := by simpa using c36))
                            (try (have c36b2 : (t218 == t219) = false := by simpa using c36))
                            (try (have c36b3 : ¬ (t218 = t219) := by simpa using c36))
                            clear c36
                            obtain rfl := Option.some.inj H
                            have p215 : 0 ≤ (x31_1 : Int) := of_decide_eq_true (by first | (with_reducible assumption) | assumption)
                            have q215 : x31_1 < (y211.length : Int) := of_decide_eq_true (by first | (with_reducible assumption) | assumption)
                            obtain ⟨ad215, e215, hx215_0⟩ := Kd.at_string (Kd.R_reads' HO_29.out).2.2 x31_1 p215 q215
                            cases e215
                            replace p215 := eq_true p215
                            replace q215 := eq_true q215
                            go_wp2_with (first | ((with_reducible refine gate_callee (f := 13) rfl ?_); refine goesL_ (some 36) rfl rfl Tryd.func13 (by kernel_rfl) rfl #[.string (rdOf ByteArray.empty y211 x31_1)] rfl (by (try simp only [List.map_toArray, List.map_cons, List.map_nil]); first | done | rfl | (simp only [List.length_drop, List.length_take]; rfl)) ?_; (with_reducible refine (host_DNS.calls k1 (rdOf ByteArray.empty y211 x31_1) t216 _ ?side1 A29.out).mono ?_); (case side1 => refine Ext.G.step ?_ hG_; repeat (first | (with_reducible first | exact HB.out | apply below_alloc | apply pw_below_drewN | apply below_drew1) | exact HB.out)); rintro e w37 ⟨rfl, hb⟩; refine ⟨_, rfl, ?_⟩; have n0_ := Aside0.mk (Kd.R_below (by (with_reducible repeat (first | apply Kd.R_alloc | apply Kd.R_drewN | apply Kd.R_drew)); exact HO_29.out) hb); have n1_ := Aside0.mk (below_step (by repeat (first | (with_reducible first | exact HB.out | apply below_alloc | apply pw_below_drewN | apply below_drew1) | exact HB.out)) hb); clear HO_29; clear HB; have HO_29 := n0_; have HB := n1_; clear n0_ n1_; (try clear hb); (try clear hb2); (try clear hk); (try clear hi)) | ((with_reducible refine gate_callee (f := 14) rfl ?_); refine goesL_ (some 38) rfl rfl Tryd.func14 (by kernel_rfl) rfl #[.string (rdOf ByteArray.empty y211 x31_1)] rfl (by (try simp only [List.map_toArray, List.map_cons, List.map_nil]); first | done | rfl | (simp only [List.length_drop, List.length_take]; rfl)) ?_; (with_reducible refine (certpathref07_DNS.calls k1 (rdOf ByteArray.empty y211 x31_1) t217 _ ?side1 A30.out).mono ?_); (case side1 => refine Ext.G.step ?_ hG_; repeat (first | (with_reducible first | exact HB.out | apply below_alloc | apply pw_below_drewN | apply below_drew1) | exact HB.out)); rintro e w38 ⟨rfl, hb⟩; refine ⟨_, rfl, ?_⟩; have n0_ := Aside0.mk (Kd.R_below (by (with_reducible repeat (first | apply Kd.R_alloc | apply Kd.R_drewN | apply Kd.R_drew)); exact HO_29.out) hb); have n1_ := Aside0.mk (below_step (by repeat (first | (with_reducible first | exact HB.out | apply below_alloc | apply pw_below_drewN | apply below_drew1) | exact HB.out)) hb); clear HO_29; clear HB; have HO_29 := n0_; have HB := n1_; clear n0_ n1_; (try clear hb); (try clear hb2); (try clear hk); (try clear hi)) | (go_at_call 15; (with_reducible refine (host_Pattern.calls k1 (rdOf ByteArray.empty y211 x31_1) t218 _ ?side1 A34.out).mono ?_); (case side1 => refine Ext.G.step ?_ hG_; repeat (first | (with_reducible first | exact HB.out | apply below_alloc | apply pw_below_drewN | apply below_drew1) | exact HB.out)); rintro e w39 ⟨rfl, hb⟩; have n0_ := Aside0.mk (Kd.R_below (by (with_reducible repeat (first | apply Kd.R_alloc | apply Kd.R_drewN | apply Kd.R_drew)); exact HO_29.out) hb); have n1_ := Aside0.mk (below_step (by repeat (first | (with_reducible first | exact HB.out | apply below_alloc | apply pw_below_drewN | apply below_drew1) | exact HB.out)) hb); clear HO_29; clear HB; have HO_29 := n0_; have HB := n1_; clear n0_ n1_; (try clear hb); (try clear hb2); (try clear hk); (try clear hi)) | (go_at_call 16; (with_reducible refine (certpathref07_Pattern.calls k1 (rdOf ByteArray.empty y211 x31_1) t219 _ ?side1 A35.out).mono ?_); (case side1 => refine Ext.G.step ?_ hG_; repeat (first | (with_reducible first | exact HB.out | apply below_alloc | apply pw_below_drewN | apply below_drew1) | exact HB.out)); rintro e w40 ⟨rfl, hb⟩; have n0_ := Aside0.mk (Kd.R_below (by (with_reducible repeat (first | apply Kd.R_alloc | apply Kd.R_drewN | apply Kd.R_drew)); exact HO_29.out) hb); have n1_ := Aside0.mk (below_step (by repeat (first | (with_reducible first | exact HB.out | apply below_alloc | apply pw_below_drewN | apply below_drew1) | exact HB.out)) hb); clear HO_29; clear HB; have HO_29 := n0_; have HB := n1_; clear n0_ n1_; (try clear hb); (try clear hb2); (try clear hk); (try clear hi)))
                            go_ret
                            exact ⟨by first | rfl | (simp [errW_none, errW_some] <;> rfl) | (simp [*, errW_none, errW_some] <;> rfl), by repeat (first | (with_reducible first | exact HB.out | apply below_alloc | apply pw_below_drewN | apply below_drew1) | exact HB.out)⟩
                          · rw [if_neg c36] at H
                            have c36b0 : (t218 != t219) = false := by simpa using c36
                            (try (have c36b1 : decide (t218 = t219) = true := by simpa using c36))
                            (try (have c36b2 : (t218 == t219) = true := by simpa using c36))
                            clear c36
                            replace H := Option.bind_eq_some_iff.mp H
                            obtain ⟨t220, A410, H⟩ := H
                            replace H : ((certpathref07_Base.f k1 (rdOf ByteArray.empty y211 x31_1)).bind fun t221 => (if (t220 != t221) = true then (some false) else ((host_Mail.f k1 (rdOf ByteArray.empty y211 x31_1)).bind fun t222 => ((certpathref07_Mail.f k1 (rdOf ByteArray.empty y211 x31_1)).bind fun t223 => (if (t222 != t223) = true then (some false) else ((host_MailBase.f k1 (rdOf ByteArray.empty y211 x31_1)).bind fun t224 => ((certpathref07_MailBase.f k1 (rdOf ByteArray.empty y211 x31_1)).bind fun t225 => (if (t224 != t225) = true then (some false) else (certpathlaw08_HostNames.l0 k1 y211 (y211.length : Int) (wrap64 (x31_1 + 1))))))))))) = some r := H
                            have A41 := Aside0.mk A410
                            clear A410
                            replace H := Option.bind_eq_some_iff.mp H
                            obtain ⟨t221, A420, H⟩ := H
                            replace H : (if (t220 != t221) = true then (some false) else ((host_Mail.f k1 (rdOf ByteArray.empty y211 x31_1)).bind fun t222 => ((certpathref07_Mail.f k1 (rdOf ByteArray.empty y211 x31_1)).bind fun t223 => (if (t222 != t223) = true then (some false) else ((host_MailBase.f k1 (rdOf ByteArray.empty y211 x31_1)).bind fun t224 => ((certpathref07_MailBase.f k1 (rdOf ByteArray.empty y211 x31_1)).bind fun t225 => (if (t224 != t225) = true then (some false) else (certpathlaw08_HostNames.l0 k1 y211 (y211.length : Int) (wrap64 (x31_1 + 1)))))))))) = some r := H
                            have A42 := Aside0.mk A420
                            clear A420
                            by_cases c43 : (t220 != t221) = true
                            · rw [if_pos c43] at H
                              have c43b0 : (t220 != t221) = true := c43
                              (try (have c43b1 : decide (t220 = t221) = false := by simpa using c43))
                              (try (have c43b2 : (t220 == t221) = false := by simpa using c43))
                              (try (have c43b3 : ¬ (t220 = t221) := by simpa using c43))
                              clear c43
                              obtain rfl := Option.some.inj H
                              have p215 : 0 ≤ (x31_1 : Int) := of_decide_eq_true (by first | (with_reducible assumption) | assumption)
                              have q215 : x31_1 < (y211.length : Int) := of_decide_eq_true (by first | (with_reducible assumption) | assumption)
                              obtain ⟨ad215, e215, hx215_0⟩ := Kd.at_string (Kd.R_reads' HO_29.out).2.2 x31_1 p215 q215
                              cases e215
                              replace p215 := eq_true p215
                              replace q215 := eq_true q215
                              go_wp2_with (first | ((with_reducible refine gate_callee (f := 13) rfl ?_); refine goesL_ (some 36) rfl rfl Tryd.func13 (by kernel_rfl) rfl #[.string (rdOf ByteArray.empty y211 x31_1)] rfl (by (try simp only [List.map_toArray, List.map_cons, List.map_nil]); first | done | rfl | (simp only [List.length_drop, List.length_take]; rfl)) ?_; (with_reducible refine (host_DNS.calls k1 (rdOf ByteArray.empty y211 x31_1) t216 _ ?side1 A29.out).mono ?_); (case side1 => refine Ext.G.step ?_ hG_; repeat (first | (with_reducible first | exact HB.out | apply below_alloc | apply pw_below_drewN | apply below_drew1) | exact HB.out)); rintro e w44 ⟨rfl, hb⟩; refine ⟨_, rfl, ?_⟩; have n0_ := Aside0.mk (Kd.R_below (by (with_reducible repeat (first | apply Kd.R_alloc | apply Kd.R_drewN | apply Kd.R_drew)); exact HO_29.out) hb); have n1_ := Aside0.mk (below_step (by repeat (first | (with_reducible first | exact HB.out | apply below_alloc | apply pw_below_drewN | apply below_drew1) | exact HB.out)) hb); clear HO_29; clear HB; have HO_29 := n0_; have HB := n1_; clear n0_ n1_; (try clear hb); (try clear hb2); (try clear hk); (try clear hi)) | ((with_reducible refine gate_callee (f := 14) rfl ?_); refine goesL_ (some 38) rfl rfl Tryd.func14 (by kernel_rfl) rfl #[.string (rdOf ByteArray.empty y211 x31_1)] rfl (by (try simp only [List.map_toArray, List.map_cons, List.map_nil]); first | done | rfl | (simp only [List.length_drop, List.length_take]; rfl)) ?_; (with_reducible refine (certpathref07_DNS.calls k1 (rdOf ByteArray.empty y211 x31_1) t217 _ ?side1 A30.out).mono ?_); (case side1 => refine Ext.G.step ?_ hG_; repeat (first | (with_reducible first | exact HB.out | apply below_alloc | apply pw_below_drewN | apply below_drew1) | exact HB.out)); rintro e w45 ⟨rfl, hb⟩; refine ⟨_, rfl, ?_⟩; have n0_ := Aside0.mk (Kd.R_below (by (with_reducible repeat (first | apply Kd.R_alloc | apply Kd.R_drewN | apply Kd.R_drew)); exact HO_29.out) hb); have n1_ := Aside0.mk (below_step (by repeat (first | (with_reducible first | exact HB.out | apply below_alloc | apply pw_below_drewN | apply below_drew1) | exact HB.out)) hb); clear HO_29; clear HB; have HO_29 := n0_; have HB := n1_; clear n0_ n1_; (try clear hb); (try clear hb2); (try clear hk); (try clear hi)) | (go_at_call 15; (with_reducible refine (host_Pattern.calls k1 (rdOf ByteArray.empty y211 x31_1) t218 _ ?side1 A34.out).mono ?_); (case side1 => refine Ext.G.step ?_ hG_; repeat (first | (with_reducible first | exact HB.out | apply below_alloc | apply pw_below_drewN | apply below_drew1) | exact HB.out)); rintro e w46 ⟨rfl, hb⟩; have n0_ := Aside0.mk (Kd.R_below (by (with_reducible repeat (first | apply Kd.R_alloc | apply Kd.R_drewN | apply Kd.R_drew)); exact HO_29.out) hb); have n1_ := Aside0.mk (below_step (by repeat (first | (with_reducible first | exact HB.out | apply below_alloc | apply pw_below_drewN | apply below_drew1) | exact HB.out)) hb); clear HO_29; clear HB; have HO_29 := n0_; have HB := n1_; clear n0_ n1_; (try clear hb); (try clear hb2); (try clear hk); (try clear hi)) | (go_at_call 16; (with_reducible refine (certpathref07_Pattern.calls k1 (rdOf ByteArray.empty y211 x31_1) t219 _ ?side1 A35.out).mono ?_); (case side1 => refine Ext.G.step ?_ hG_; repeat (first | (with_reducible first | exact HB.out | apply below_alloc | apply pw_below_drewN | apply below_drew1) | exact HB.out)); rintro e w47 ⟨rfl, hb⟩; have n0_ := Aside0.mk (Kd.R_below (by (with_reducible repeat (first | apply Kd.R_alloc | apply Kd.R_drewN | apply Kd.R_drew)); exact HO_29.out) hb); have n1_ := Aside0.mk (below_step (by repeat (first | (with_reducible first | exact HB.out | apply below_alloc | apply pw_below_drewN | apply below_drew1) | exact HB.out)) hb); clear HO_29; clear HB; have HO_29 := n0_; have HB := n1_; clear n0_ n1_; (try clear hb); (try clear hb2); (try clear hk); (try clear hi)) | (go_at_call 17; (with_reducible refine (host_Base.calls k1 (rdOf ByteArray.empty y211 x31_1) t220 _ ?side1 A41.out).mono ?_); (case side1 => refine Ext.G.step ?_ hG_; repeat (first | (with_reducible first | exact HB.out | apply below_alloc | apply pw_below_drewN | apply below_drew1) | exact HB.out)); rintro e w48 ⟨rfl, hb⟩; have n0_ := Aside0.mk (Kd.R_below (by (with_reducible repeat (first | apply Kd.R_alloc | apply Kd.R_drewN | apply Kd.R_drew)); exact HO_29.out) hb); have n1_ := Aside0.mk (below_step (by repeat (first | (with_reducible first | exact HB.out | apply below_alloc | apply pw_below_drewN | apply below_drew1) | exact HB.out)) hb); clear HO_29; clear HB; have HO_29 := n0_; have HB := n1_; clear n0_ n1_; (try clear hb); (try clear hb2); (try clear hk); (try clear hi)) | (go_at_call 18; (with_reducible refine (certpathref07_Base.calls k1 (rdOf ByteArray.empty y211 x31_1) t221 _ ?side1 A42.out).mono ?_); (case side1 => refine Ext.G.step ?_ hG_; repeat (first | (with_reducible first | exact HB.out | apply below_alloc | apply pw_below_drewN | apply below_drew1) | exact HB.out)); rintro e w49 ⟨rfl, hb⟩; have n0_ := Aside0.mk (Kd.R_below (by (with_reducible repeat (first | apply Kd.R_alloc | apply Kd.R_drewN | apply Kd.R_drew)); exact HO_29.out) hb); have n1_ := Aside0.mk (below_step (by repeat (first | (with_reducible first | exact HB.out | apply below_alloc | apply pw_below_drewN | apply below_drew1) | exact HB.out)) hb); clear HO_29; clear HB; have HO_29 := n0_; have HB := n1_; clear n0_ n1_; (try clear hb); (try clear hb2); (try clear hk); (try clear hi)))
                              go_ret
                              exact ⟨by first | rfl | (simp [errW_none, errW_some] <;> rfl) | (simp [*, errW_none, errW_some] <;> rfl), by repeat (first | (with_reducible first | exact HB.out | apply below_alloc | apply pw_below_drewN | apply below_drew1) | exact HB.out)⟩
                            · rw [if_neg c43] at H
                              have c43b0 : (t220 != t221) = false := by simpa using c43
                              (try (have c43b1 : decide (t220 = t221) = true := by simpa using c43))
                              (try (have c43b2 : (t220 == t221) = true := by simpa using c43))
                              clear c43
                              replace H := Option.bind_eq_some_iff.mp H
                              obtain ⟨t222, A500, H⟩ := H
                              replace H : ((certpathref07_Mail.f k1 (rdOf ByteArray.empty y211 x31_1)).bind fun t223 => (if (t222 != t223) = true then (some false) else ((host_MailBase.f k1 (rdOf ByteArray.empty y211 x31_1)).bind fun t224 => ((certpathref07_MailBase.f k1 (rdOf ByteArray.empty y211 x31_1)).bind fun t225 => (if (t224 != t225) = true then (some false) else (certpathlaw08_HostNames.l0 k1 y211 (y211.length : Int) (wrap64 (x31_1 + 1)))))))) = some r := H
                              have A50 := Aside0.mk A500
                              clear A500
                              replace H := Option.bind_eq_some_iff.mp H
                              obtain ⟨t223, A510, H⟩ := H
                              replace H : (if (t222 != t223) = true then (some false) else ((host_MailBase.f k1 (rdOf ByteArray.empty y211 x31_1)).bind fun t224 => ((certpathref07_MailBase.f k1 (rdOf ByteArray.empty y211 x31_1)).bind fun t225 => (if (t224 != t225) = true then (some false) else (certpathlaw08_HostNames.l0 k1 y211 (y211.length : Int) (wrap64 (x31_1 + 1))))))) = some r := H
                              have A51 := Aside0.mk A510
                              clear A510
                              by_cases c52 : (t222 != t223) = true
                              · rw [if_pos c52] at H
                                have c52b0 : (t222 != t223) = true := c52
                                (try (have c52b1 : decide (t222 = t223) = false := by simpa using c52))
                                (try (have c52b2 : (t222 == t223) = false := by simpa using c52))
                                (try (have c52b3 : ¬ (t222 = t223) := by simpa using c52))
                                clear c52
                                obtain rfl := Option.some.inj H
                                have p215 : 0 ≤ (x31_1 : Int) := of_decide_eq_true (by first | (with_reducible assumption) | assumption)
                                have q215 : x31_1 < (y211.length : Int) := of_decide_eq_true (by first | (with_reducible assumption) | assumption)
                                obtain ⟨ad215, e215, hx215_0⟩ := Kd.at_string (Kd.R_reads' HO_29.out).2.2 x31_1 p215 q215
                                cases e215
                                replace p215 := eq_true p215
                                replace q215 := eq_true q215
                                go_wp2_with (first | ((with_reducible refine gate_callee (f := 13) rfl ?_); refine goesL_ (some 36) rfl rfl Tryd.func13 (by kernel_rfl) rfl #[.string (rdOf ByteArray.empty y211 x31_1)] rfl (by (try simp only [List.map_toArray, List.map_cons, List.map_nil]); first | done | rfl | (simp only [List.length_drop, List.length_take]; rfl)) ?_; (with_reducible refine (host_DNS.calls k1 (rdOf ByteArray.empty y211 x31_1) t216 _ ?side1 A29.out).mono ?_); (case side1 => refine Ext.G.step ?_ hG_; repeat (first | (with_reducible first | exact HB.out | apply below_alloc | apply pw_below_drewN | apply below_drew1) | exact HB.out)); rintro e w53 ⟨rfl, hb⟩; refine ⟨_, rfl, ?_⟩; have n0_ := Aside0.mk (Kd.R_below (by (with_reducible repeat (first | apply Kd.R_alloc | apply Kd.R_drewN | apply Kd.R_drew)); exact HO_29.out) hb); have n1_ := Aside0.mk (below_step (by repeat (first | (with_reducible first | exact HB.out | apply below_alloc | apply pw_below_drewN | apply below_drew1) | exact HB.out)) hb); clear HO_29; clear HB; have HO_29 := n0_; have HB := n1_; clear n0_ n1_; (try clear hb); (try clear hb2); (try clear hk); (try clear hi)) | ((with_reducible refine gate_callee (f := 14) rfl ?_); refine goesL_ (some 38) rfl rfl Tryd.func14 (by kernel_rfl) rfl #[.string (rdOf ByteArray.empty y211 x31_1)] rfl (by (try simp only [List.map_toArray, List.map_cons, List.map_nil]); first | done | rfl | (simp only [List.length_drop, List.length_take]; rfl)) ?_; (with_reducible refine (certpathref07_DNS.calls k1 (rdOf ByteArray.empty y211 x31_1) t217 _ ?side1 A30.out).mono ?_); (case side1 => refine Ext.G.step ?_ hG_; repeat (first | (with_reducible first | exact HB.out | apply below_alloc | apply pw_below_drewN | apply below_drew1) | exact HB.out)); rintro e w54 ⟨rfl, hb⟩; refine ⟨_, rfl, ?_⟩; have n0_ := Aside0.mk (Kd.R_below (by (with_reducible repeat (first | apply Kd.R_alloc | apply Kd.R_drewN | apply Kd.R_drew)); exact HO_29.out) hb); have n1_ := Aside0.mk (below_step (by repeat (first | (with_reducible first | exact HB.out | apply below_alloc | apply pw_below_drewN | apply below_drew1) | exact HB.out)) hb); clear HO_29; clear HB; have HO_29 := n0_; have HB := n1_; clear n0_ n1_; (try clear hb); (try clear hb2); (try clear hk); (try clear hi)) | (go_at_call 15; (with_reducible refine (host_Pattern.calls k1 (rdOf ByteArray.empty y211 x31_1) t218 _ ?side1 A34.out).mono ?_); (case side1 => refine Ext.G.step ?_ hG_; repeat (first | (with_reducible first | exact HB.out | apply below_alloc | apply pw_below_drewN | apply below_drew1) | exact HB.out)); rintro e w55 ⟨rfl, hb⟩; have n0_ := Aside0.mk (Kd.R_below (by (with_reducible repeat (first | apply Kd.R_alloc | apply Kd.R_drewN | apply Kd.R_drew)); exact HO_29.out) hb); have n1_ := Aside0.mk (below_step (by repeat (first | (with_reducible first | exact HB.out | apply below_alloc | apply pw_below_drewN | apply below_drew1) | exact HB.out)) hb); clear HO_29; clear HB; have HO_29 := n0_; have HB := n1_; clear n0_ n1_; (try clear hb); (try clear hb2); (try clear hk); (try clear hi)) | (go_at_call 16; (with_reducible refine (certpathref07_Pattern.calls k1 (rdOf ByteArray.empty y211 x31_1) t219 _ ?side1 A35.out).mono ?_); (case side1 => refine Ext.G.step ?_ hG_; repeat (first | (with_reducible first | exact HB.out | apply below_alloc | apply pw_below_drewN | apply below_drew1) | exact HB.out)); rintro e w56 ⟨rfl, hb⟩; have n0_ := Aside0.mk (Kd.R_below (by (with_reducible repeat (first | apply Kd.R_alloc | apply Kd.R_drewN | apply Kd.R_drew)); exact HO_29.out) hb); have n1_ := Aside0.mk (below_step (by repeat (first | (with_reducible first | exact HB.out | apply below_alloc | apply pw_below_drewN | apply below_drew1) | exact HB.out)) hb); clear HO_29; clear HB; have HO_29 := n0_; have HB := n1_; clear n0_ n1_; (try clear hb); (try clear hb2); (try clear hk); (try clear hi)) | (go_at_call 17; (with_reducible refine (host_Base.calls k1 (rdOf ByteArray.empty y211 x31_1) t220 _ ?side1 A41.out).mono ?_); (case side1 => refine Ext.G.step ?_ hG_; repeat (first | (with_reducible first | exact HB.out | apply below_alloc | apply pw_below_drewN | apply below_drew1) | exact HB.out)); rintro e w57 ⟨rfl, hb⟩; have n0_ := Aside0.mk (Kd.R_below (by (with_reducible repeat (first | apply Kd.R_alloc | apply Kd.R_drewN | apply Kd.R_drew)); exact HO_29.out) hb); have n1_ := Aside0.mk (below_step (by repeat (first | (with_reducible first | exact HB.out | apply below_alloc | apply pw_below_drewN | apply below_drew1) | exact HB.out)) hb); clear HO_29; clear HB; have HO_29 := n0_; have HB := n1_; clear n0_ n1_; (try clear hb); (try clear hb2); (try clear hk); (try clear hi)) | (go_at_call 18; (with_reducible refine (certpathref07_Base.calls k1 (rdOf ByteArray.empty y211 x31_1) t221 _ ?side1 A42.out).mono ?_); (case side1 => refine Ext.G.step ?_ hG_; repeat (first | (with_reducible first | exact HB.out | apply below_alloc | apply pw_below_drewN | apply below_drew1) | exact HB.out)); rintro e w58 ⟨rfl, hb⟩; have n0_ := Aside0.mk (Kd.R_below (by (with_reducible repeat (first | apply Kd.R_alloc | apply Kd.R_drewN | apply Kd.R_drew)); exact HO_29.out) hb); have n1_ := Aside0.mk (below_step (by repeat (first | (with_reducible first | exact HB.out | apply below_alloc | apply pw_below_drewN | apply below_drew1) | exact HB.out)) hb); clear HO_29; clear HB; have HO_29 := n0_; have HB := n1_; clear n0_ n1_; (try clear hb); (try clear hb2); (try clear hk); (try clear hi)) | (go_at_call 19; (with_reducible refine (host_Mail.calls k1 (rdOf ByteArray.empty y211 x31_1) t222 _ ?side1 A50.out).mono ?_); (case side1 => refine Ext.G.step ?_ hG_; repeat (first | (with_reducible first | exact HB.out | apply below_alloc | apply pw_below_drewN | apply below_drew1) | exact HB.out)); rintro e w59 ⟨rfl, hb⟩; have n0_ := Aside0.mk (Kd.R_below (by (with_reducible repeat (first | apply Kd.R_alloc | apply Kd.R_drewN | apply Kd.R_drew)); exact HO_29.out) hb); have n1_ := Aside0.mk (below_step (by repeat (first | (with_reducible first | exact HB.out | apply below_alloc | apply pw_below_drewN | apply below_drew1) | exact HB.out)) hb); clear HO_29; clear HB; have HO_29 := n0_; have HB := n1_; clear n0_ n1_; (try clear hb); (try clear hb2); (try clear hk); (try clear hi)) | (go_at_call 20; (with_reducible refine (certpathref07_Mail.calls k1 (rdOf ByteArray.empty y211 x31_1) t223 _ ?side1 A51.out).mono ?_); (case side1 => refine Ext.G.step ?_ hG_; repeat (first | (with_reducible first | exact HB.out | apply below_alloc | apply pw_below_drewN | apply below_drew1) | exact HB.out)); rintro e w60 ⟨rfl, hb⟩; have n0_ := Aside0.mk (Kd.R_below (by (with_reducible repeat (first | apply Kd.R_alloc | apply Kd.R_drewN | apply Kd.R_drew)); exact HO_29.out) hb); have n1_ := Aside0.mk (below_step (by repeat (first | (with_reducible first | exact HB.out | apply below_alloc | apply pw_below_drewN | apply below_drew1) | exact HB.out)) hb); clear HO_29; clear HB; have HO_29 := n0_; have HB := n1_; clear n0_ n1_; (try clear hb); (try clear hb2); (try clear hk); (try clear hi)))
                                go_ret
                                exact ⟨by first | rfl | (simp [errW_none, errW_some] <;> rfl) | (simp [*, errW_none, errW_some] <;> rfl), by repeat (first | (with_reducible first | exact HB.out | apply below_alloc | apply pw_below_drewN | apply below_drew1) | exact HB.out)⟩
                              · rw [if_neg c52] at H
                                have c52b0 : (t222 != t223) = false := by simpa using c52
                                (try (have c52b1 : decide (t222 = t223) = true := by simpa using c52))
                                (try (have c52b2 : (t222 == t223) = true := by simpa using c52))
                                clear c52
                                replace H := Option.bind_eq_some_iff.mp H
                                obtain ⟨t224, A610, H⟩ := H
                                replace H : ((certpathref07_MailBase.f k1 (rdOf ByteArray.empty y211 x31_1)).bind fun t225 => (if (t224 != t225) = true then (some false) else (certpathlaw08_HostNames.l0 k1 y211 (y211.length : Int) (wrap64 (x31_1 + 1))))) = some r := H
                                have A61 := Aside0.mk A610
                                clear A610
                                replace H := Option.bind_eq_some_iff.mp H
                                obtain ⟨t225, A620, H⟩ := H
                                replace H : (if (t224 != t225) = true then (some false) else (certpathlaw08_HostNames.l0 k1 y211 (y211.length : Int) (wrap64 (x31_1 + 1)))) = some r := H
                                have A62 := Aside0.mk A620
                                clear A620
                                by_cases c63 : (t224 != t225) = true
                                · rw [if_pos c63] at H
                                  have c63b0 : (t224 != t225) = true := c63
                                  (try (have c63b1 : decide (t224 = t225) = false := by simpa using c63))
                                  (try (have c63b2 : (t224 == t225) = false := by simpa using c63))
                                  (try (have c63b3 : ¬ (t224 = t225) := by simpa using c63))
                                  clear c63
                                  obtain rfl := Option.some.inj H
                                  have p215 : 0 ≤ (x31_1 : Int) := of_decide_eq_true (by first | (with_reducible assumption) | assumption)
                                  have q215 : x31_1 < (y211.length : Int) := of_decide_eq_true (by first | (with_reducible assumption) | assumption)
                                  obtain ⟨ad215, e215, hx215_0⟩ := Kd.at_string (Kd.R_reads' HO_29.out).2.2 x31_1 p215 q215
                                  cases e215
                                  replace p215 := eq_true p215
                                  replace q215 := eq_true q215
                                  go_wp2_with (first | ((with_reducible refine gate_callee (f := 13) rfl ?_); refine goesL_ (some 36) rfl rfl Tryd.func13 (by kernel_rfl) rfl #[.string (rdOf ByteArray.empty y211 x31_1)] rfl (by (try simp only [List.map_toArray, List.map_cons, List.map_nil]); first | done | rfl | (simp only [List.length_drop, List.length_take]; rfl)) ?_; (with_reducible refine (host_DNS.calls k1 (rdOf ByteArray.empty y211 x31_1) t216 _ ?side1 A29.out).mono ?_); (case side1 => refine Ext.G.step ?_ hG_; repeat (first | (with_reducible first | exact HB.out | apply below_alloc | apply pw_below_drewN | apply below_drew1) | exact HB.out)); rintro e w64 ⟨rfl, hb⟩; refine ⟨_, rfl, ?_⟩; have n0_ := Aside0.mk (Kd.R_below (by (with_reducible repeat (first | apply Kd.R_alloc | apply Kd.R_drewN | apply Kd.R_drew)); exact HO_29.out) hb); have n1_ := Aside0.mk (below_step (by repeat (first | (with_reducible first | exact HB.out | apply below_alloc | apply pw_below_drewN | apply below_drew1) | exact HB.out)) hb); clear HO_29; clear HB; have HO_29 := n0_; have HB := n1_; clear n0_ n1_; (try clear hb); (try clear hb2); (try clear hk); (try clear hi)) | ((with_reducible refine gate_callee (f := 14) rfl ?_); refine goesL_ (some 38) rfl rfl Tryd.func14 (by kernel_rfl) rfl #[.string (rdOf ByteArray.empty y211 x31_1)] rfl (by (try simp only [List.map_toArray, List.map_cons, List.map_nil]); first | done | rfl | (simp only [List.length_drop, List.length_take]; rfl)) ?_; (with_reducible refine (certpathref07_DNS.calls k1 (rdOf ByteArray.empty y211 x31_1) t217 _ ?side1 A30.out).mono ?_); (case side1 => refine Ext.G.step ?_ hG_; repeat (first | (with_reducible first | exact HB.out | apply below_alloc | apply pw_below_drewN | apply below_drew1) | exact HB.out)); rintro e w65 ⟨rfl, hb⟩; refine ⟨_, rfl, ?_⟩; have n0_ := Aside0.mk (Kd.R_below (by (with_reducible repeat (first | apply Kd.R_alloc | apply Kd.R_drewN | apply Kd.R_drew)); exact HO_29.out) hb); have n1_ := Aside0.mk (below_step (by repeat (first | (with_reducible first | exact HB.out | apply below_alloc | apply pw_below_drewN | apply below_drew1) | exact HB.out)) hb); clear HO_29; clear HB; have HO_29 := n0_; have HB := n1_; clear n0_ n1_; (try clear hb); (try clear hb2); (try clear hk); (try clear hi)) | (go_at_call 15; (with_reducible refine (host_Pattern.calls k1 (rdOf ByteArray.empty y211 x31_1) t218 _ ?side1 A34.out).mono ?_); (case side1 => refine Ext.G.step ?_ hG_; repeat (first | (with_reducible first | exact HB.out | apply below_alloc | apply pw_below_drewN | apply below_drew1) | exact HB.out)); rintro e w66 ⟨rfl, hb⟩; have n0_ := Aside0.mk (Kd.R_below (by (with_reducible repeat (first | apply Kd.R_alloc | apply Kd.R_drewN | apply Kd.R_drew)); exact HO_29.out) hb); have n1_ := Aside0.mk (below_step (by repeat (first | (with_reducible first | exact HB.out | apply below_alloc | apply pw_below_drewN | apply below_drew1) | exact HB.out)) hb); clear HO_29; clear HB; have HO_29 := n0_; have HB := n1_; clear n0_ n1_; (try clear hb); (try clear hb2); (try clear hk); (try clear hi)) | (go_at_call 16; (with_reducible refine (certpathref07_Pattern.calls k1 (rdOf ByteArray.empty y211 x31_1) t219 _ ?side1 A35.out).mono ?_); (case side1 => refine Ext.G.step ?_ hG_; repeat (first | (with_reducible first | exact HB.out | apply below_alloc | apply pw_below_drewN | apply below_drew1) | exact HB.out)); rintro e w67 ⟨rfl, hb⟩; have n0_ := Aside0.mk (Kd.R_below (by (with_reducible repeat (first | apply Kd.R_alloc | apply Kd.R_drewN | apply Kd.R_drew)); exact HO_29.out) hb); have n1_ := Aside0.mk (below_step (by repeat (first | (with_reducible first | exact HB.out | apply below_alloc | apply pw_below_drewN | apply below_drew1) | exact HB.out)) hb); clear HO_29; clear HB; have HO_29 := n0_; have HB := n1_; clear n0_ n1_; (try clear hb); (try clear hb2); (try clear hk); (try clear hi)) | (go_at_call 17; (with_reducible refine (host_Base.calls k1 (rdOf ByteArray.empty y211 x31_1) t220 _ ?side1 A41.out).mono ?_); (case side1 => refine Ext.G.step ?_ hG_; repeat (first | (with_reducible first | exact HB.out | apply below_alloc | apply pw_below_drewN | apply below_drew1) | exact HB.out)); rintro e w68 ⟨rfl, hb⟩; have n0_ := Aside0.mk (Kd.R_below (by (with_reducible repeat (first | apply Kd.R_alloc | apply Kd.R_drewN | apply Kd.R_drew)); exact HO_29.out) hb); have n1_ := Aside0.mk (below_step (by repeat (first | (with_reducible first | exact HB.out | apply below_alloc | apply pw_below_drewN | apply below_drew1) | exact HB.out)) hb); clear HO_29; clear HB; have HO_29 := n0_; have HB := n1_; clear n0_ n1_; (try clear hb); (try clear hb2); (try clear hk); (try clear hi)) | (go_at_call 18; (with_reducible refine (certpathref07_Base.calls k1 (rdOf ByteArray.empty y211 x31_1) t221 _ ?side1 A42.out).mono ?_); (case side1 => refine Ext.G.step ?_ hG_; repeat (first | (with_reducible first | exact HB.out | apply below_alloc | apply pw_below_drewN | apply below_drew1) | exact HB.out)); rintro e w69 ⟨rfl, hb⟩; have n0_ := Aside0.mk (Kd.R_below (by (with_reducible repeat (first | apply Kd.R_alloc | apply Kd.R_drewN | apply Kd.R_drew)); exact HO_29.out) hb); have n1_ := Aside0.mk (below_step (by repeat (first | (with_reducible first | exact HB.out | apply below_alloc | apply pw_below_drewN | apply below_drew1) | exact HB.out)) hb); clear HO_29; clear HB; have HO_29 := n0_; have HB := n1_; clear n0_ n1_; (try clear hb); (try clear hb2); (try clear hk); (try clear hi)) | (go_at_call 19; (with_reducible refine (host_Mail.calls k1 (rdOf ByteArray.empty y211 x31_1) t222 _ ?side1 A50.out).mono ?_); (case side1 => refine Ext.G.step ?_ hG_; repeat (first | (with_reducible first | exact HB.out | apply below_alloc | apply pw_below_drewN | apply below_drew1) | exact HB.out)); rintro e w70 ⟨rfl, hb⟩; have n0_ := Aside0.mk (Kd.R_below (by (with_reducible repeat (first | apply Kd.R_alloc | apply Kd.R_drewN | apply Kd.R_drew)); exact HO_29.out) hb); have n1_ := Aside0.mk (below_step (by repeat (first | (with_reducible first | exact HB.out | apply below_alloc | apply pw_below_drewN | apply below_drew1) | exact HB.out)) hb); clear HO_29; clear HB; have HO_29 := n0_; have HB := n1_; clear n0_ n1_; (try clear hb); (try clear hb2); (try clear hk); (try clear hi)) | (go_at_call 20; (with_reducible refine (certpathref07_Mail.calls k1 (rdOf ByteArray.empty y211 x31_1) t223 _ ?side1 A51.out).mono ?_); (case side1 => refine Ext.G.step ?_ hG_; repeat (first | (with_reducible first | exact HB.out | apply below_alloc | apply pw_below_drewN | apply below_drew1) | exact HB.out)); rintro e w71 ⟨rfl, hb⟩; have n0_ := Aside0.mk (Kd.R_below (by (with_reducible repeat (first | apply Kd.R_alloc | apply Kd.R_drewN | apply Kd.R_drew)); exact HO_29.out) hb); have n1_ := Aside0.mk (below_step (by repeat (first | (with_reducible first | exact HB.out | apply below_alloc | apply pw_below_drewN | apply below_drew1) | exact HB.out)) hb); clear HO_29; clear HB; have HO_29 := n0_; have HB := n1_; clear n0_ n1_; (try clear hb); (try clear hb2); (try clear hk); (try clear hi)) | (go_at_call 21; (with_reducible refine (host_MailBase.calls k1 (rdOf ByteArray.empty y211 x31_1) t224 _ ?side1 A61.out).mono ?_); (case side1 => refine Ext.G.step ?_ hG_; repeat (first | (with_reducible first | exact HB.out | apply below_alloc | apply pw_below_drewN | apply below_drew1) | exact HB.out)); rintro e w72 ⟨rfl, hb⟩; have n0_ := Aside0.mk (Kd.R_below (by (with_reducible repeat (first | apply Kd.R_alloc | apply Kd.R_drewN | apply Kd.R_drew)); exact HO_29.out) hb); have n1_ := Aside0.mk (below_step (by repeat (first | (with_reducible first | exact HB.out | apply below_alloc | apply pw_below_drewN | apply below_drew1) | exact HB.out)) hb); clear HO_29; clear HB; have HO_29 := n0_; have HB := n1_; clear n0_ n1_; (try clear hb); (try clear hb2); (try clear hk); (try clear hi)) | (go_at_call 22; (with_reducible refine (certpathref07_MailBase.calls k1 (rdOf ByteArray.empty y211 x31_1) t225 _ ?side1 A62.out).mono ?_); (case side1 => refine Ext.G.step ?_ hG_; repeat (first | (with_reducible first | exact HB.out | apply below_alloc | apply pw_below_drewN | apply below_drew1) | exact HB.out)); rintro e w73 ⟨rfl, hb⟩; have n0_ := Aside0.mk (Kd.R_below (by (with_reducible repeat (first | apply Kd.R_alloc | apply Kd.R_drewN | apply Kd.R_drew)); exact HO_29.out) hb); have n1_ := Aside0.mk (below_step (by repeat (first | (with_reducible first | exact HB.out | apply below_alloc | apply pw_below_drewN | apply below_drew1) | exact HB.out)) hb); clear HO_29; clear HB; have HO_29 := n0_; have HB := n1_; clear n0_ n1_; (try clear hb); (try clear hb2); (try clear hk); (try clear hi)))
                                  go_ret
                                  exact ⟨by first | rfl | (simp [errW_none, errW_some] <;> rfl) | (simp [*, errW_none, errW_some] <;> rfl), by repeat (first | (with_reducible first | exact HB.out | apply below_alloc | apply pw_below_drewN | apply below_drew1) | exact HB.out)⟩
                                · rw [if_neg c63] at H
                                  have c63b0 : (t224 != t225) = false := by simpa using c63
                                  (try (have c63b1 : decide (t224 = t225) = true := by simpa using c63))
                                  (try (have c63b2 : (t224 == t225) = true := by simpa using c63))
                                  clear c63
                                  have H' := Aside0.mk H
                                  clear H
                                  have p215 : 0 ≤ (x31_1 : Int) := of_decide_eq_true (by first | (with_reducible assumption) | assumption)
                                  have q215 : x31_1 < (y211.length : Int) := of_decide_eq_true (by first | (with_reducible assumption) | assumption)
                                  obtain ⟨ad215, e215, hx215_0⟩ := Kd.at_string (Kd.R_reads' HO_29.out).2.2 x31_1 p215 q215
                                  cases e215
                                  replace p215 := eq_true p215
                                  replace q215 := eq_true q215
                                  go_wp2_with (first | ((with_reducible refine gate_callee (f := 13) rfl ?_); refine goesL_ (some 36) rfl rfl Tryd.func13 (by kernel_rfl) rfl #[.string (rdOf ByteArray.empty y211 x31_1)] rfl (by (try simp only [List.map_toArray, List.map_cons, List.map_nil]); first | done | rfl | (simp only [List.length_drop, List.length_take]; rfl)) ?_; (with_reducible refine (host_DNS.calls k1 (rdOf ByteArray.empty y211 x31_1) t216 _ ?side1 A29.out).mono ?_); (case side1 => refine Ext.G.step ?_ hG_; repeat (first | (with_reducible first | exact HB.out | apply below_alloc | apply pw_below_drewN | apply below_drew1) | exact HB.out)); rintro e w74 ⟨rfl, hb⟩; refine ⟨_, rfl, ?_⟩; have n0_ := Aside0.mk (Kd.R_below (by (with_reducible repeat (first | apply Kd.R_alloc | apply Kd.R_drewN | apply Kd.R_drew)); exact HO_29.out) hb); have n1_ := Aside0.mk (below_step (by repeat (first | (with_reducible first | exact HB.out | apply below_alloc | apply pw_below_drewN | apply below_drew1) | exact HB.out)) hb); clear HO_29; clear HB; have HO_29 := n0_; have HB := n1_; clear n0_ n1_; (try clear hb); (try clear hb2); (try clear hk); (try clear hi)) | ((with_reducible refine gate_callee (f := 14) rfl ?_); refine goesL_ (some 38) rfl rfl Tryd.func14 (by kernel_rfl) rfl #[.string (rdOf ByteArray.empty y211 x31_1)] rfl (by (try simp only [List.map_toArray, List.map_cons, List.map_nil]); first | done | rfl | (simp only [List.length_drop, List.length_take]; rfl)) ?_; (with_reducible refine (certpathref07_DNS.calls k1 (rdOf ByteArray.empty y211 x31_1) t217 _ ?side1 A30.out).mono ?_); (case side1 => refine Ext.G.step ?_ hG_; repeat (first | (with_reducible first | exact HB.out | apply below_alloc | apply pw_below_drewN | apply below_drew1) | exact HB.out)); rintro e w75 ⟨rfl, hb⟩; refine ⟨_, rfl, ?_⟩; have n0_ := Aside0.mk (Kd.R_below (by (with_reducible repeat (first | apply Kd.R_alloc | apply Kd.R_drewN | apply Kd.R_drew)); exact HO_29.out) hb); have n1_ := Aside0.mk (below_step (by repeat (first | (with_reducible first | exact HB.out | apply below_alloc | apply pw_below_drewN | apply below_drew1) | exact HB.out)) hb); clear HO_29; clear HB; have HO_29 := n0_; have HB := n1_; clear n0_ n1_; (try clear hb); (try clear hb2); (try clear hk); (try clear hi)) | (go_at_call 15; (with_reducible refine (host_Pattern.calls k1 (rdOf ByteArray.empty y211 x31_1) t218 _ ?side1 A34.out).mono ?_); (case side1 => refine Ext.G.step ?_ hG_; repeat (first | (with_reducible first | exact HB.out | apply below_alloc | apply pw_below_drewN | apply below_drew1) | exact HB.out)); rintro e w76 ⟨rfl, hb⟩; have n0_ := Aside0.mk (Kd.R_below (by (with_reducible repeat (first | apply Kd.R_alloc | apply Kd.R_drewN | apply Kd.R_drew)); exact HO_29.out) hb); have n1_ := Aside0.mk (below_step (by repeat (first | (with_reducible first | exact HB.out | apply below_alloc | apply pw_below_drewN | apply below_drew1) | exact HB.out)) hb); clear HO_29; clear HB; have HO_29 := n0_; have HB := n1_; clear n0_ n1_; (try clear hb); (try clear hb2); (try clear hk); (try clear hi)) | (go_at_call 16; (with_reducible refine (certpathref07_Pattern.calls k1 (rdOf ByteArray.empty y211 x31_1) t219 _ ?side1 A35.out).mono ?_); (case side1 => refine Ext.G.step ?_ hG_; repeat (first | (with_reducible first | exact HB.out | apply below_alloc | apply pw_below_drewN | apply below_drew1) | exact HB.out)); rintro e w77 ⟨rfl, hb⟩; have n0_ := Aside0.mk (Kd.R_below (by (with_reducible repeat (first | apply Kd.R_alloc | apply Kd.R_drewN | apply Kd.R_drew)); exact HO_29.out) hb); have n1_ := Aside0.mk (below_step (by repeat (first | (with_reducible first | exact HB.out | apply below_alloc | apply pw_below_drewN | apply below_drew1) | exact HB.out)) hb); clear HO_29; clear HB; have HO_29 := n0_; have HB := n1_; clear n0_ n1_; (try clear hb); (try clear hb2); (try clear hk); (try clear hi)) | (go_at_call 17; (with_reducible refine (host_Base.calls k1 (rdOf ByteArray.empty y211 x31_1) t220 _ ?side1 A41.out).mono ?_); (case side1 => refine Ext.G.step ?_ hG_; repeat (first | (with_reducible first | exact HB.out | apply below_alloc | apply pw_below_drewN | apply below_drew1) | exact HB.out)); rintro e w78 ⟨rfl, hb⟩; have n0_ := Aside0.mk (Kd.R_below (by (with_reducible repeat (first | apply Kd.R_alloc | apply Kd.R_drewN | apply Kd.R_drew)); exact HO_29.out) hb); have n1_ := Aside0.mk (below_step (by repeat (first | (with_reducible first | exact HB.out | apply below_alloc | apply pw_below_drewN | apply below_drew1) | exact HB.out)) hb); clear HO_29; clear HB; have HO_29 := n0_; have HB := n1_; clear n0_ n1_; (try clear hb); (try clear hb2); (try clear hk); (try clear hi)) | (go_at_call 18; (with_reducible refine (certpathref07_Base.calls k1 (rdOf ByteArray.empty y211 x31_1) t221 _ ?side1 A42.out).mono ?_); (case side1 => refine Ext.G.step ?_ hG_; repeat (first | (with_reducible first | exact HB.out | apply below_alloc | apply pw_below_drewN | apply below_drew1) | exact HB.out)); rintro e w79 ⟨rfl, hb⟩; have n0_ := Aside0.mk (Kd.R_below (by (with_reducible repeat (first | apply Kd.R_alloc | apply Kd.R_drewN | apply Kd.R_drew)); exact HO_29.out) hb); have n1_ := Aside0.mk (below_step (by repeat (first | (with_reducible first | exact HB.out | apply below_alloc | apply pw_below_drewN | apply below_drew1) | exact HB.out)) hb); clear HO_29; clear HB; have HO_29 := n0_; have HB := n1_; clear n0_ n1_; (try clear hb); (try clear hb2); (try clear hk); (try clear hi)) | (go_at_call 19; (with_reducible refine (host_Mail.calls k1 (rdOf ByteArray.empty y211 x31_1) t222 _ ?side1 A50.out).mono ?_); (case side1 => refine Ext.G.step ?_ hG_; repeat (first | (with_reducible first | exact HB.out | apply below_alloc | apply pw_below_drewN | apply below_drew1) | exact HB.out)); rintro e w80 ⟨rfl, hb⟩; have n0_ := Aside0.mk (Kd.R_below (by (with_reducible repeat (first | apply Kd.R_alloc | apply Kd.R_drewN | apply Kd.R_drew)); exact HO_29.out) hb); have n1_ := Aside0.mk (below_step (by repeat (first | (with_reducible first | exact HB.out | apply below_alloc | apply pw_below_drewN | apply below_drew1) | exact HB.out)) hb); clear HO_29; clear HB; have HO_29 := n0_; have HB := n1_; clear n0_ n1_; (try clear hb); (try clear hb2); (try clear hk); (try clear hi)) | (go_at_call 20; (with_reducible refine (certpathref07_Mail.calls k1 (rdOf ByteArray.empty y211 x31_1) t223 _ ?side1 A51.out).mono ?_); (case side1 => refine Ext.G.step ?_ hG_; repeat (first | (with_reducible first | exact HB.out | apply below_alloc | apply pw_below_drewN | apply below_drew1) | exact HB.out)); rintro e w81 ⟨rfl, hb⟩; have n0_ := Aside0.mk (Kd.R_below (by (with_reducible repeat (first | apply Kd.R_alloc | apply Kd.R_drewN | apply Kd.R_drew)); exact HO_29.out) hb); have n1_ := Aside0.mk (below_step (by repeat (first | (with_reducible first | exact HB.out | apply below_alloc | apply pw_below_drewN | apply below_drew1) | exact HB.out)) hb); clear HO_29; clear HB; have HO_29 := n0_; have HB := n1_; clear n0_ n1_; (try clear hb); (try clear hb2); (try clear hk); (try clear hi)) | (go_at_call 21; (with_reducible refine (host_MailBase.calls k1 (rdOf ByteArray.empty y211 x31_1) t224 _ ?side1 A61.out).mono ?_); (case side1 => refine Ext.G.step ?_ hG_; repeat (first | (with_reducible first | exact HB.out | apply below_alloc | apply pw_below_drewN | apply below_drew1) | exact HB.out)); rintro e w82 ⟨rfl, hb⟩; have n0_ := Aside0.mk (Kd.R_below (by (with_reducible repeat (first | apply Kd.R_alloc | apply Kd.R_drewN | apply Kd.R_drew)); exact HO_29.out) hb); have n1_ := Aside0.mk (below_step (by repeat (first | (with_reducible first | exact HB.out | apply below_alloc | apply pw_below_drewN | apply below_drew1) | exact HB.out)) hb); clear HO_29; clear HB; have HO_29 := n0_; have HB := n1_; clear n0_ n1_; (try clear hb); (try clear hb2); (try clear hk); (try clear hi)) | (go_at_call 22; (with_reducible refine (certpathref07_MailBase.calls k1 (rdOf ByteArray.empty y211 x31_1) t225 _ ?side1 A62.out).mono ?_); (case side1 => refine Ext.G.step ?_ hG_; repeat (first | (with_reducible first | exact HB.out | apply below_alloc | apply pw_below_drewN | apply below_drew1) | exact HB.out)); rintro e w83 ⟨rfl, hb⟩; have n0_ := Aside0.mk (Kd.R_below (by (with_reducible repeat (first | apply Kd.R_alloc | apply Kd.R_drewN | apply Kd.R_drew)); exact HO_29.out) hb); have n1_ := Aside0.mk (below_step (by repeat (first | (with_reducible first | exact HB.out | apply below_alloc | apply pw_below_drewN | apply below_drew1) | exact HB.out)) hb); clear HO_29; clear HB; have HO_29 := n0_; have HB := n1_; clear n0_ n1_; (try clear hb); (try clear hb2); (try clear hk); (try clear hi)))
                                  go_roundg k1
                                  case measure => have := HK1.out; omega
                                  case rel => exact ⟨(wrap64 (x31_1 + 1)), (by first | rfl | (simp; done) | (simp [*]; done)), H', ⟨by have := HK1.out; omega⟩, ⟨by (with_reducible repeat (first | apply Kd.R_alloc | apply Kd.R_drewN | apply Kd.R_drew)); exact HO_29.out⟩, ⟨by repeat (first | (with_reducible first | exact HB.out | apply below_alloc | apply pw_below_drewN | apply below_drew1) | exact HB.out)⟩⟩
                      · rw [if_neg c28] at H
                        exact absurd H (by simp)
                    · rw [if_neg c27] at H
                      exact absurd H (by simp)
                  · rw [if_neg c26] at H
                    have c26b0 : decide (x31_1 < (y211.length : Int)) = false := decide_eq_false c26
                    clear c26
                    replace H := Option.bind_eq_some_iff.mp H
                    obtain ⟨t214, A840, H⟩ := H
                    replace H : (some t214) = some r := H
                    have A84 := Aside0.mk A840
                    clear A840
                    obtain rfl := Option.some.inj H
                    go_wp2_with (first | ((with_reducible refine gate_callee (f := 10) rfl ?_); refine goesL_ (some 69) rfl rfl Tryd.func10 (by kernel_rfl) rfl #[] rfl (by (try simp only [List.map_toArray, List.map_cons, List.map_nil]); first | done | rfl | (simp only [List.length_drop, List.length_take]; rfl)) ?_; (with_reducible refine (certpathlaw08_awake.calls k1  t214 _ ?side1 A84.out).mono ?_); (case side1 => refine Ext.G.step ?_ hG_; repeat (first | (with_reducible first | exact HB.out | apply below_alloc | apply pw_below_drewN | apply below_drew1) | exact HB.out)); rintro e w85 ⟨rfl, hb⟩; refine ⟨_, rfl, ?_⟩; have n0_ := Aside0.mk (Kd.R_below (by (with_reducible repeat (first | apply Kd.R_alloc | apply Kd.R_drewN | apply Kd.R_drew)); exact HO_29.out) hb); have n1_ := Aside0.mk (below_step (by repeat (first | (with_reducible first | exact HB.out | apply below_alloc | apply pw_below_drewN | apply below_drew1) | exact HB.out)) hb); clear HO_29; clear HB; have HO_29 := n0_; have HB := n1_; clear n0_ n1_; (try clear hb); (try clear hb2); (try clear hk); (try clear hi)))
                    go_ret
                    exact ⟨by first | rfl | (simp [errW_none, errW_some] <;> rfl) | (simp [*, errW_none, errW_some] <;> rfl), by repeat (first | (with_reducible first | exact HB.out | apply below_alloc | apply pw_below_drewN | apply below_drew1) | exact HB.out)⟩
            · rw [if_neg c16] at H
              exact absurd H (by simp)
          · rw [if_neg c14] at H
            exact absurd H (by simp)
        · rw [if_neg c12] at H
          exact absurd H (by simp)
      · rw [if_neg c10] at H
        exact absurd H (by simp)
    · rw [if_neg c8] at H
      exact absurd H (by simp)

/-- THE ONE PURE STATEMENT of certpathlaw08_HostNames: yours. -/
def certpathlaw08_HostNames.Pure : Prop := ∀ (a0 : ByteArray) (l1 : List Int), a0.size ≤ 140737488351232 → l1.length ≤ maxLen → l1.length * 1 ≤ 140737488351232 → (∀ x ∈ l1, (Lit.int .u8 x).wf = true) → ∃ k, certpathlaw08_HostNames.f k a0 l1 = some true
theorem certpathlaw08_HostNames.walk (P : certpathlaw08_HostNames.Pure) (a0 : ByteArray) (a1 : Option Addr) (len1 cap1 : Nat) (z1 : List Int) (w : World) (hG_ : Ext.G w) (w0 : a0.size ≤ 140737488351232) (w1 : (a1 = none ∧ len1 = 0 ∧ cap1 = 0 ∧ z1 = []) ∨ ∃ x, a1 = some x ∧ len1 ≤ cap1 ∧ cap1 ≤ maxLen ∧ z1.length = cap1 ∧ (∀ i, i < z1.length → w.cell? (x.add i) = some (.int .u8 (z1.getD i 0))) ∧ ∀ n ∈ z1, (Lit.int .u8 n).wf = true) (y1 : len1 * 1 ≤ 140737488351232) :
    Calls Tryd.prog 3 #[.string a0, .slice a1 len1 cap1] w fun e w' => e = .returned (.bool true) ∧ Below w.heap.size w w' := by
  obtain ⟨l1, rfl, hr1, hm1, hw1, hc1⟩ := ReadsInt.ofRowC w1
  obtain ⟨k, h⟩ := P a0 l1 w0 hm1 y1 hw1
  refine (certpathlaw08_HostNames.calls k a0 _ _ l1 true w hG_ (Kd.C_of_reads (d := (0 : Int)) (h1 := fun _ => rfl) hr1) hc1 h).mono ?_
  rintro e w' ⟨rfl, hd⟩
  exact ⟨rfl, hd⟩

end Go.Proofs.YtegmenlonpgnpaaDoor.Q
