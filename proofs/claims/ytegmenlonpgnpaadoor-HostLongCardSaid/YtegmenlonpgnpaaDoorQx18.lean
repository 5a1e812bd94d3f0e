-- Written by a program of this session (wip/prn.py) out of the translation, for the seat YtegmenlonpgnpaaDoor. Not trusted: Lean checks it.
import Derived.Test.YtegmenlonpgnpaaDoorQx0
import Derived.Test.YtegmenlonpgnpaaDoorQx1
import Derived.Test.YtegmenlonpgnpaaDoorQx2
import Derived.Test.YtegmenlonpgnpaaDoorQx3
import Derived.Test.YtegmenlonpgnpaaDoorQx6
import Derived.Test.YtegmenlonpgnpaaDoorQx8
import Derived.Test.YtegmenlonpgnpaaDoorQx12
import Derived.Test.YtegmenlonpgnpaaDoorQx13
import Derived.Test.YtegmenlonpgnpaaDoorQx16
namespace Go.Proofs.YtegmenlonpgnpaaDoor.Q
open Go.RowKit Go.Proofs.YtegmenlonpgnpaaDoorW.PrintWords Go.Proofs.YtegmenlonpgnpaaDoorW.PrintLast Go.Proofs.YtegmenlonpgnpaaDoorW.PrintMore
attribute [local go_sem] max2_int min2_int max_two min_two max_three min_three max_four min_four   -- for this text's walks alone
set_option linter.unusedVariables false
set_option linter.unusedSimpArgs false

/-! ### certpathlaw08_HostLong: function 4 -/
mutual
def certpathlaw08_HostLong.l0 : Nat → Int → Int → Int → ByteArray → Int → Option (Bool)
  | 0, _, _, _, _, _ => none
  | k + 1, x0, x1, x2, x7, x8 => if x8 < (wrap64 (58 + (wrap64 (Int.tmod x0 10)))) then (if x7.size + 1 ≤ 9223372036854775807 then (certpathlaw08_HostLong.l0 k x0 x1 x2 (x7 ++ (⟨#[120]⟩ : ByteArray)) (wrap64 (x8 + 1))) else (none)) else (certpathlaw08_HostLong.l1 k x1 x2 x7 x7 0)
def certpathlaw08_HostLong.l1 : Nat → Int → Int → ByteArray → ByteArray → Int → Option (Bool)
  | 0, _, _, _, _, _ => none
  | k + 1, x1, x2, x7, x9, x10 => if x10 < (wrap64 (Int.tmod x1 130)) then (if 0 ≤ (Int.tmod x10 2) then (if (Int.tmod x10 2) ≤ (wrap64 ((Int.tmod x10 2) + 1)) then (if (wrap64 ((Int.tmod x10 2) + 1)) ≤ 2 then (if x9.size + ((⟨#[46, 121]⟩ : ByteArray).extract ((Int.tmod x10 2) : Int).toNat ((wrap64 ((Int.tmod x10 2) + 1)) : Int).toNat).size ≤ 9223372036854775807 then (certpathlaw08_HostLong.l1 k x1 x2 x7 (x9 ++ ((⟨#[46, 121]⟩ : ByteArray).extract ((Int.tmod x10 2) : Int).toNat ((wrap64 ((Int.tmod x10 2) + 1)) : Int).toNat)) (wrap64 (x10 + 1))) else (none)) else (none)) else (none)) else (none)) else (certpathlaw08_HostLong.l2 k x2 x7 x9 (⟨#[]⟩ : ByteArray) 0)
def certpathlaw08_HostLong.l2 : Nat → Int → ByteArray → ByteArray → ByteArray → Int → Option (Bool)
  | 0, _, _, _, _, _ => none
  | k + 1, x2, x7, x9, x11, x12 => if x12 < (wrap64 (58 + (wrap64 (Int.tmod x2 10)))) then (if x11.size + 1 ≤ 9223372036854775807 then (certpathlaw08_HostLong.l2 k x2 x7 x9 (x11 ++ (⟨#[109]⟩ : ByteArray)) (wrap64 (x12 + 1))) else (none)) else (if 2 + x9.size ≤ 9223372036854775807 then (if 1 + x9.size ≤ 9223372036854775807 then (if 4 + x7.size ≤ 9223372036854775807 then (if x11.size + 1 ≤ 9223372036854775807 then (if (x11 ++ (⟨#[64]⟩ : ByteArray)).size + x7.size ≤ 9223372036854775807 then (if (x11 ++ (⟨#[64]⟩ : ByteArray)).size + x9.size ≤ 9223372036854775807 then ((some (([x7, x9, (⟨#[42, 46]⟩ : ByteArray) ++ x9, (⟨#[46]⟩ : ByteArray) ++ x9, (⟨#[42, 46, 121, 46]⟩ : ByteArray) ++ x7, (x11 ++ (⟨#[64]⟩ : ByteArray)) ++ x7, (x11 ++ (⟨#[64]⟩ : ByteArray)) ++ x9, (⟨#[109, 64]⟩ : ByteArray) ++ x9] : List ByteArray) : List ByteArray)).bind fun y226 => (certpathlaw08_HostLong.l3 k y226 (y226.length : Int) 0)) else (none)) else (none)) else (none)) else (none)) else (none)) else (none))
def certpathlaw08_HostLong.l3 : Nat → List ByteArray → Int → Int → Option (Bool)
  | 0, _, _, _ => none
  | k + 1, x69, x70, x71 => if x71 < x70 then (if 0 ≤ x71 then (if x71 < (x69.length : Int) then ((host_DNS.f k (rdOf ByteArray.empty x69 x71)).bind fun t231 => ((certpathref07_DNS.f k (rdOf ByteArray.empty x69 x71)).bind fun t232 => (if (t231 != t232) = true then (some false) else ((host_Pattern.f k (rdOf ByteArray.empty x69 x71)).bind fun t233 => ((certpathref07_Pattern.f k (rdOf ByteArray.empty x69 x71)).bind fun t234 => (if (t233 != t234) = true then (some false) else ((host_Mail.f k (rdOf ByteArray.empty x69 x71)).bind fun t235 => ((certpathref07_Mail.f k (rdOf ByteArray.empty x69 x71)).bind fun t236 => (if (t235 != t236) = true then (some false) else ((host_MailBase.f k (rdOf ByteArray.empty x69 x71)).bind fun t237 => ((certpathref07_MailBase.f k (rdOf ByteArray.empty x69 x71)).bind fun t238 => (if (t237 != t238) = true then (some false) else (certpathlaw08_HostLong.l3 k x69 x70 (wrap64 (x71 + 1))))))))))))))) else (none)) else (none)) else ((certpathlaw08_awake.f k).bind fun t229 => (some t229))
end
def certpathlaw08_HostLong.f (k : Nat) (a0 : Int) (a1 : Int) (a2 : Int) : Option (Bool) := certpathlaw08_HostLong.l0 k a0 a1 a2 (⟨#[]⟩ : ByteArray) 0
theorem certpathlaw08_HostLong.mono_l : ∀ k, (∀ y0 y1 y2 y3 y4, LeO (certpathlaw08_HostLong.l0 k y0 y1 y2 y3 y4) (certpathlaw08_HostLong.l0 (k + 1) y0 y1 y2 y3 y4)) ∧ (∀ y0 y1 y2 y3 y4, LeO (certpathlaw08_HostLong.l1 k y0 y1 y2 y3 y4) (certpathlaw08_HostLong.l1 (k + 1) y0 y1 y2 y3 y4)) ∧ (∀ y0 y1 y2 y3 y4, LeO (certpathlaw08_HostLong.l2 k y0 y1 y2 y3 y4) (certpathlaw08_HostLong.l2 (k + 1) y0 y1 y2 y3 y4)) ∧ (∀ y0 y1 y2, LeO (certpathlaw08_HostLong.l3 k y0 y1 y2) (certpathlaw08_HostLong.l3 (k + 1) y0 y1 y2))
  | 0 => ⟨fun _ _ _ _ _ r h => by simp [certpathlaw08_HostLong.l0] at h, fun _ _ _ _ _ r h => by simp [certpathlaw08_HostLong.l1] at h, fun _ _ _ _ _ r h => by simp [certpathlaw08_HostLong.l2] at h, fun _ _ _ r h => by simp [certpathlaw08_HostLong.l3] at h⟩
  | k + 1 => by
    obtain ⟨ih0, ih1, ih2, ih3⟩ := certpathlaw08_HostLong.mono_l k
    refine ⟨?_, ?_, ?_, ?_⟩
    · intro y0 y1 y2 y3 y4
      unfold certpathlaw08_HostLong.l0
      repeat' first
      | (with_reducible exact ih0 _ _ _ _ _)
      | (with_reducible exact ih1 _ _ _ _ _)
      | (with_reducible exact ih2 _ _ _ _ _)
      | (with_reducible exact ih3 _ _ _)
      | (with_reducible exact certpathlaw08_awake.mono _)
      | (with_reducible exact certpathref07_DNS.mono _ _)
      | (with_reducible exact certpathref07_Mail.mono _ _)
      | (with_reducible exact certpathref07_MailBase.mono _ _)
      | (with_reducible exact certpathref07_Pattern.mono _ _)
      | (with_reducible exact host_DNS.mono _ _)
      | (with_reducible exact host_Mail.mono _ _)
      | (with_reducible exact host_MailBase.mono _ _)
      | (with_reducible exact host_Pattern.mono _ _)
      | (with_reducible exact LeO.refl _)
      | (with_reducible exact LeO.none _)
      | (with_reducible refine LeO.ite ?_ ?_)
      | (with_reducible refine LeO.bind ?_ (fun _ => ?_))
      | exact ih0 _ _ _ _ _
      | exact ih1 _ _ _ _ _
      | exact ih2 _ _ _ _ _
      | exact ih3 _ _ _
      | exact certpathlaw08_awake.mono _
      | exact certpathref07_DNS.mono _ _
      | exact certpathref07_Mail.mono _ _
      | exact certpathref07_MailBase.mono _ _
      | exact certpathref07_Pattern.mono _ _
      | exact host_DNS.mono _ _
      | exact host_Mail.mono _ _
      | exact host_MailBase.mono _ _
      | exact host_Pattern.mono _ _
      | exact LeO.none _
      | refine LeO.ite ?_ ?_
      | refine LeO.bind ?_ (fun _ => ?_)
    · intro y0 y1 y2 y3 y4
      unfold certpathlaw08_HostLong.l1
      repeat' first
      | (with_reducible exact ih0 _ _ _ _ _)
      | (with_reducible exact ih1 _ _ _ _ _)
      | (with_reducible exact ih2 _ _ _ _ _)
      | (with_reducible exact ih3 _ _ _)
      | (with_reducible exact certpathlaw08_awake.mono _)
      | (with_reducible exact certpathref07_DNS.mono _ _)
      | (with_reducible exact certpathref07_Mail.mono _ _)
      | (with_reducible exact certpathref07_MailBase.mono _ _)
      | (with_reducible exact certpathref07_Pattern.mono _ _)
      | (with_reducible exact host_DNS.mono _ _)
      | (with_reducible exact host_Mail.mono _ _)
      | (with_reducible exact host_MailBase.mono _ _)
      | (with_reducible exact host_Pattern.mono _ _)
      | (with_reducible exact LeO.refl _)
      | (with_reducible exact LeO.none _)
      | (with_reducible refine LeO.ite ?_ ?_)
      | (with_reducible refine LeO.bind ?_ (fun _ => ?_))
      | exact ih0 _ _ _ _ _
      | exact ih1 _ _ _ _ _
      | exact ih2 _ _ _ _ _
      | exact ih3 _ _ _
      | exact certpathlaw08_awake.mono _
      | exact certpathref07_DNS.mono _ _
      | exact certpathref07_Mail.mono _ _
      | exact certpathref07_MailBase.mono _ _
      | exact certpathref07_Pattern.mono _ _
      | exact host_DNS.mono _ _
      | exact host_Mail.mono _ _
      | exact host_MailBase.mono _ _
      | exact host_Pattern.mono _ _
      | exact LeO.none _
      | refine LeO.ite ?_ ?_
      | refine LeO.bind ?_ (fun _ => ?_)
    · intro y0 y1 y2 y3 y4
      unfold certpathlaw08_HostLong.l2
      repeat' first
      | (with_reducible exact ih0 _ _ _ _ _)
      | (with_reducible exact ih1 _ _ _ _ _)
      | (with_reducible exact ih2 _ _ _ _ _)
      | (with_reducible exact ih3 _ _ _)
      | (with_reducible exact certpathlaw08_awake.mono _)
      | (with_reducible exact certpathref07_DNS.mono _ _)
      | (with_reducible exact certpathref07_Mail.mono _ _)
      | (with_reducible exact certpathref07_MailBase.mono _ _)
      | (with_reducible exact certpathref07_Pattern.mono _ _)
      | (with_reducible exact host_DNS.mono _ _)
      | (with_reducible exact host_Mail.mono _ _)
      | (with_reducible exact host_MailBase.mono _ _)
      | (with_reducible exact host_Pattern.mono _ _)
      | (with_reducible exact LeO.refl _)
      | (with_reducible exact LeO.none _)
      | (with_reducible refine LeO.ite ?_ ?_)
      | (with_reducible refine LeO.bind ?_ (fun _ => ?_))
      | exact ih0 _ _ _ _ _
      | exact ih1 _ _ _ _ _
      | exact ih2 _ _ _ _ _
      | exact ih3 _ _ _
      | exact certpathlaw08_awake.mono _
      | exact certpathref07_DNS.mono _ _
      | exact certpathref07_Mail.mono _ _
      | exact certpathref07_MailBase.mono _ _
      | exact certpathref07_Pattern.mono _ _
      | exact host_DNS.mono _ _
      | exact host_Mail.mono _ _
      | exact host_MailBase.mono _ _
      | exact host_Pattern.mono _ _
      | exact LeO.none _
      | refine LeO.ite ?_ ?_
      | refine LeO.bind ?_ (fun _ => ?_)
    · intro y0 y1 y2
      unfold certpathlaw08_HostLong.l3
      repeat' first
      | (with_reducible exact ih0 _ _ _ _ _)
      | (with_reducible exact ih1 _ _ _ _ _)
      | (with_reducible exact ih2 _ _ _ _ _)
      | (with_reducible exact ih3 _ _ _)
      | (with_reducible exact certpathlaw08_awake.mono _)
      | (with_reducible exact certpathref07_DNS.mono _ _)
      | (with_reducible exact certpathref07_Mail.mono _ _)
      | (with_reducible exact certpathref07_MailBase.mono _ _)
      | (with_reducible exact certpathref07_Pattern.mono _ _)
      | (with_reducible exact host_DNS.mono _ _)
      | (with_reducible exact host_Mail.mono _ _)
      | (with_reducible exact host_MailBase.mono _ _)
      | (with_reducible exact host_Pattern.mono _ _)
      | (with_reducible exact LeO.refl _)
      | (with_reducible exact LeO.none _)
      | (with_reducible refine LeO.ite ?_ ?_)
      | (with_reducible refine LeO.bind ?_ (fun _ => ?_))
      | exact ih0 _ _ _ _ _
      | exact ih1 _ _ _ _ _
      | exact ih2 _ _ _ _ _
      | exact ih3 _ _ _
      | exact certpathlaw08_awake.mono _
      | exact certpathref07_DNS.mono _ _
      | exact certpathref07_Mail.mono _ _
      | exact certpathref07_MailBase.mono _ _
      | exact certpathref07_Pattern.mono _ _
      | exact host_DNS.mono _ _
      | exact host_Mail.mono _ _
      | exact host_MailBase.mono _ _
      | exact host_Pattern.mono _ _
      | exact LeO.none _
      | refine LeO.ite ?_ ?_
      | refine LeO.bind ?_ (fun _ => ?_)
theorem certpathlaw08_HostLong.mono : ∀ a0 a1 a2 k, LeO (certpathlaw08_HostLong.f k a0 a1 a2) (certpathlaw08_HostLong.f (k + 1) a0 a1 a2) := by
  intro a0 a1 a2 k
  obtain ⟨ih0, ih1, ih2, ih3⟩ := certpathlaw08_HostLong.mono_l k
  unfold certpathlaw08_HostLong.f
  repeat' first
      | (with_reducible exact ih0 _ _ _ _ _)
      | (with_reducible exact ih1 _ _ _ _ _)
      | (with_reducible exact ih2 _ _ _ _ _)
      | (with_reducible exact ih3 _ _ _)
      | (with_reducible exact certpathlaw08_awake.mono _)
      | (with_reducible exact certpathref07_DNS.mono _ _)
      | (with_reducible exact certpathref07_Mail.mono _ _)
      | (with_reducible exact certpathref07_MailBase.mono _ _)
      | (with_reducible exact certpathref07_Pattern.mono _ _)
      | (with_reducible exact host_DNS.mono _ _)
      | (with_reducible exact host_Mail.mono _ _)
      | (with_reducible exact host_MailBase.mono _ _)
      | (with_reducible exact host_Pattern.mono _ _)
      | (with_reducible exact LeO.refl _)
      | (with_reducible exact LeO.none _)
      | (with_reducible refine LeO.ite ?_ ?_)
      | (with_reducible refine LeO.bind ?_ (fun _ => ?_))
      | exact ih0 _ _ _ _ _
      | exact ih1 _ _ _ _ _
      | exact ih2 _ _ _ _ _
      | exact ih3 _ _ _
      | exact certpathlaw08_awake.mono _
      | exact certpathref07_DNS.mono _ _
      | exact certpathref07_Mail.mono _ _
      | exact certpathref07_MailBase.mono _ _
      | exact certpathref07_Pattern.mono _ _
      | exact host_DNS.mono _ _
      | exact host_Mail.mono _ _
      | exact host_MailBase.mono _ _
      | exact host_Pattern.mono _ _
      | exact LeO.none _
      | refine LeO.ite ?_ ?_
      | refine LeO.bind ?_ (fun _ => ?_)
set_option maxHeartbeats 8000000 in
set_option maxRecDepth 100000 in
theorem certpathlaw08_HostLong.calls (k : Nat) (a0 : Int) (a1 : Int) (a2 : Int) (r : Bool) (w : World) (hG_ : Ext.G w) (h : certpathlaw08_HostLong.f k a0 a1 a2 = some r) :
    Calls Tryd.prog 4 #[.int .u8 a0, .int .u8 a1, .int .u8 a2] w fun e w' => e = .returned (.bool r) ∧ Below w.heap.size w w' := by
  have HB := Aside0.mk (Below.refl w.heap.size w)
  have H : (certpathlaw08_HostLong.l0 k a0 a1 a2 (⟨#[]⟩ : ByteArray) 0) = some r := h
  clear h
  have H' := Aside0.mk H
  clear H
  go_enter Tryd.func4, Tryd.ntmps4
  go_wp2
  go_loopg [7, 8] k (fun kq v7 v8 w' => ∃ (x7_1 : ByteArray) (x8_1 : Int), v7 = .string x7_1 ∧ v8 = .int .i64 x8_1 ∧ Aside0 (certpathlaw08_HostLong.l0 kq a0 a1 a2 x7_1 x8_1 = some r) ∧ Aside0 (kq ≤ k) ∧ Aside0 (Below w.heap.size w w'))
  case atStart => exact ⟨((⟨#[]⟩ : ByteArray)), (0), (by first | rfl | (simp; done) | (simp [*]; done)), (by first | rfl | (simp; done) | (simp [*]; done)), H', ⟨Nat.le_refl _⟩, ⟨by repeat (first | (with_reducible first | exact HB.out | apply below_alloc | apply pw_below_drewN | apply below_drew1) | exact HB.out)⟩⟩
  case round =>
    clear H'
    try clear p2
    obtain ⟨x7_1, x8_1, rfl, rfl, HA, HK1, HB⟩ := hrel
    cases gk with
    | zero => exact absurd HA.out (by simp [certpathlaw08_HostLong.l0])
    | succ k1 =>
      have H := HA.out
      clear HA
      simp only [certpathlaw08_HostLong.l0] at H
      by_cases c4 : x8_1 < (wrap64 (58 + (wrap64 (Int.tmod a0 10))))
      · rw [if_pos c4] at H
        have c4b0 : decide (x8_1 < (wrap64 (58 + (wrap64 (Int.tmod a0 10))))) = true := decide_eq_true c4
        clear c4
        by_cases c5 : x7_1.size + 1 ≤ 9223372036854775807
        · rw [if_pos c5] at H
          have c5b0 := eq_true c5
          have c5b1 : decide (x7_1.size + 1 ≤ 9223372036854775807) = true := decide_eq_true c5
          try have c5b2 : (9223372036854775807 < x7_1.size + 1) = False := eq_false (Nat.not_lt.2 c5)
          have H' := Aside0.mk H
          clear H
          go_wp2
          go_roundg k1
          case measure => have := HK1.out; omega
          case rel => exact ⟨(x7_1 ++ (⟨#[120]⟩ : ByteArray)), (wrap64 (x8_1 + 1)), (by first | rfl | (simp; done) | (simp [*]; done)), (by first | rfl | (simp; done) | (simp [*]; done)), H', ⟨by have := HK1.out; omega⟩, ⟨by repeat (first | (with_reducible first | exact HB.out | apply below_alloc | apply pw_below_drewN | apply below_drew1) | exact HB.out)⟩⟩
        · rw [if_neg c5] at H
          exact absurd H (by simp)
      · rw [if_neg c4] at H
        have c4b0 : decide (x8_1 < (wrap64 (58 + (wrap64 (Int.tmod a0 10))))) = false := decide_eq_false c4
        clear c4
        have H' := Aside0.mk H
        clear H
        go_wp2
        go_loopg [9, 10] k1 (fun kq v9 v10 w' => ∃ (x9_2 : ByteArray) (x10_2 : Int), v9 = .string x9_2 ∧ v10 = .int .i64 x10_2 ∧ Aside0 (certpathlaw08_HostLong.l1 kq a1 a2 x7_1 x9_2 x10_2 = some r) ∧ Aside0 (kq ≤ k1) ∧ Aside0 (Below w.heap.size w w'))
        case atStart => exact ⟨(x7_1), (0), (by first | rfl | (simp; done) | (simp [*]; done)), (by first | rfl | (simp; done) | (simp [*]; done)), H', ⟨Nat.le_refl _⟩, ⟨by repeat (first | (with_reducible first | exact HB.out | apply below_alloc | apply pw_below_drewN | apply below_drew1) | exact HB.out)⟩⟩
        case round =>
          clear H'
          try clear p2
          try clear c4
          try clear c4b0
          try clear c5
          try clear c5b0
          try clear c5b1
          try clear c5b2
          try clear p2
          obtain ⟨x9_2, x10_2, rfl, rfl, HA, HK2, HB⟩ := hrel
          cases gk with
          | zero => exact absurd HA.out (by simp [certpathlaw08_HostLong.l1])
          | succ k2 =>
            have H := HA.out
            clear HA
            simp only [certpathlaw08_HostLong.l1] at H
            by_cases c6 : x10_2 < (wrap64 (Int.tmod a1 130))
            · rw [if_pos c6] at H
              have c6b0 : decide (x10_2 < (wrap64 (Int.tmod a1 130))) = true := decide_eq_true c6
              clear c6
              obtain ⟨ji7, hji7⟩ : ∃ j_ : Int, (Int.tmod x10_2 2) = j_ := ⟨_, rfl⟩
              replace H : (if 0 ≤ (ji7) then (if (ji7) ≤ (wrap64 ((ji7) + 1)) then (if (wrap64 ((ji7) + 1)) ≤ 2 then (if x9_2.size + ((⟨#[46, 121]⟩ : ByteArray).extract ((ji7) : Int).toNat ((wrap64 ((ji7) + 1)) : Int).toNat).size ≤ 9223372036854775807 then (certpathlaw08_HostLong.l1 k2 a1 a2 x7_1 (x9_2 ++ ((⟨#[46, 121]⟩ : ByteArray).extract ((ji7) : Int).toNat ((wrap64 ((ji7) + 1)) : Int).toNat)) (wrap64 (x10_2 + 1))) else (none)) else (none)) else (none)) else (none)) = some r := by first | (rw [hji7] at H; exact H) | (simp only [hji7] at H ⊢; exact H)
              by_cases c8 : 0 ≤ (ji7)
              · rw [if_pos c8] at H
                have c8b0 := eq_true c8
                have c8b1 : decide (0 ≤ (ji7)) = true := decide_eq_true c8
                clear c8
                by_cases c9 : (ji7) ≤ (wrap64 ((ji7) + 1))
                · rw [if_pos c9] at H
                  have c9b0 := eq_true c9
                  have c9b1 : decide ((ji7) ≤ (wrap64 ((ji7) + 1))) = true := decide_eq_true c9
                  by_cases c10 : (wrap64 ((ji7) + 1)) ≤ 2
                  · rw [if_pos c10] at H
                    have c10b0 := eq_true c10
                    have c10b1 : decide ((wrap64 ((ji7) + 1)) ≤ 2) = true := decide_eq_true c10
                    by_cases c11 : x9_2.size + ((⟨#[46, 121]⟩ : ByteArray).extract ((ji7) : Int).toNat ((wrap64 ((ji7) + 1)) : Int).toNat).size ≤ 9223372036854775807
                    · rw [if_pos c11] at H
                      have c11b0 := eq_true c11
                      have c11b1 : decide (x9_2.size + ((⟨#[46, 121]⟩ : ByteArray).extract ((ji7) : Int).toNat ((wrap64 ((ji7) + 1)) : Int).toNat).size ≤ 9223372036854775807) = true := decide_eq_true c11
                      try have c11b2 : (9223372036854775807 < x9_2.size + ((⟨#[46, 121]⟩ : ByteArray).extract ((ji7) : Int).toNat ((wrap64 ((ji7) + 1)) : Int).toNat).size) = False := eq_false (Nat.not_lt.2 c11)
                      have H' := Aside0.mk H
                      clear H
                      go_wp2
                      go_roundg k2
                      case measure => have := HK1.out; have := HK2.out; omega
                      case rel => exact ⟨(x9_2 ++ ((⟨#[46, 121]⟩ : ByteArray).extract ((ji7) : Int).toNat ((wrap64 ((ji7) + 1)) : Int).toNat)), (wrap64 (x10_2 + 1)), (by first | rfl | (simp; done) | (simp only [← hji7] <;> (first | rfl | simp)) | (simp [*]; done)), (by first | rfl | (simp; done) | (simp [*]; done)), H', ⟨by have := HK1.out; have := HK2.out; omega⟩, ⟨by repeat (first | (with_reducible first | exact HB.out | apply below_alloc | apply pw_below_drewN | apply below_drew1) | exact HB.out)⟩⟩
                    · rw [if_neg c11] at H
                      exact absurd H (by simp)
                  · rw [if_neg c10] at H
                    exact absurd H (by simp)
                · rw [if_neg c9] at H
                  exact absurd H (by simp)
              · rw [if_neg c8] at H
                exact absurd H (by simp)
            · rw [if_neg c6] at H
              have c6b0 : decide (x10_2 < (wrap64 (Int.tmod a1 130))) = false := decide_eq_false c6
              clear c6
              have H' := Aside0.mk H
              clear H
              go_wp2
              go_loopg [11, 12] k2 (fun kq v11 v12 w' => ∃ (x11_3 : ByteArray) (x12_3 : Int), v11 = .string x11_3 ∧ v12 = .int .i64 x12_3 ∧ Aside0 (certpathlaw08_HostLong.l2 kq a2 x7_1 x9_2 x11_3 x12_3 = some r) ∧ Aside0 (kq ≤ k2) ∧ Aside0 (Below w.heap.size w w'))
              case atStart => exact ⟨((⟨#[]⟩ : ByteArray)), (0), (by first | rfl | (simp; done) | (simp [*]; done)), (by first | rfl | (simp; done) | (simp [*]; done)), H', ⟨Nat.le_refl _⟩, ⟨by repeat (first | (with_reducible first | exact HB.out | apply below_alloc | apply pw_below_drewN | apply below_drew1) | exact HB.out)⟩⟩
              case round =>
                clear H'
                try clear c1
                try clear p2
                try clear c4
                try clear c4b0
                try clear c5
                try clear c5b0
                try clear c5b1
                try clear c5b2
                try clear c6
                try clear c6b0
                try clear p6
                try clear c8
                try clear c8b0
                try clear c8b1
                try clear c9
                try clear c9b0
                try clear c9b1
                try clear c10
                try clear c10b0
                try clear c10b1
                try clear c11
                try clear c11b0
                try clear c11b1
                try clear c11b2
                try clear p2
                obtain ⟨x11_3, x12_3, rfl, rfl, HA, HK3, HB⟩ := hrel
                cases gk with
                | zero => exact absurd HA.out (by simp [certpathlaw08_HostLong.l2])
                | succ k3 =>
                  have H := HA.out
                  clear HA
                  simp only [certpathlaw08_HostLong.l2] at H
                  by_cases c12 : x12_3 < (wrap64 (58 + (wrap64 (Int.tmod a2 10))))
                  · rw [if_pos c12] at H
                    have c12b0 : decide (x12_3 < (wrap64 (58 + (wrap64 (Int.tmod a2 10))))) = true := decide_eq_true c12
                    clear c12
                    by_cases c13 : x11_3.size + 1 ≤ 9223372036854775807
                    · rw [if_pos c13] at H
                      have c13b0 := eq_true c13
                      have c13b1 : decide (x11_3.size + 1 ≤ 9223372036854775807) = true := decide_eq_true c13
                      try have c13b2 : (9223372036854775807 < x11_3.size + 1) = False := eq_false (Nat.not_lt.2 c13)
                      have H' := Aside0.mk H
                      clear H
                      go_wp2
                      go_roundg k3
                      case measure => have := HK1.out; have := HK2.out; have := HK3.out; omega
                      case rel => exact ⟨(x11_3 ++ (⟨#[109]⟩ : ByteArray)), (wrap64 (x12_3 + 1)), (by first | rfl | (simp; done) | (simp [*]; done)), (by first | rfl | (simp; done) | (simp [*]; done)), H', ⟨by have := HK1.out; have := HK2.out; have := HK3.out; omega⟩, ⟨by repeat (first | (with_reducible first | exact HB.out | apply below_alloc | apply pw_below_drewN | apply below_drew1) | exact HB.out)⟩⟩
                    · rw [if_neg c13] at H
                      exact absurd H (by simp)
                  · rw [if_neg c12] at H
                    have c12b0 : decide (x12_3 < (wrap64 (58 + (wrap64 (Int.tmod a2 10))))) = false := decide_eq_false c12
                    clear c12
                    by_cases c14 : 2 + x9_2.size ≤ 9223372036854775807
                    · rw [if_pos c14] at H
                      have c14b0 := eq_true c14
                      have c14b1 : decide (2 + x9_2.size ≤ 9223372036854775807) = true := decide_eq_true c14
                      try have c14b2 : (9223372036854775807 < 2 + x9_2.size) = False := eq_false (Nat.not_lt.2 c14)
                      by_cases c15 : 1 + x9_2.size ≤ 9223372036854775807
                      · rw [if_pos c15] at H
                        have c15b0 := eq_true c15
                        have c15b1 : decide (1 + x9_2.size ≤ 9223372036854775807) = true := decide_eq_true c15
                        try have c15b2 : (9223372036854775807 < 1 + x9_2.size) = False := eq_false (Nat.not_lt.2 c15)
                        by_cases c16 : 4 + x7_1.size ≤ 9223372036854775807
                        · rw [if_pos c16] at H
                          have c16b0 := eq_true c16
                          have c16b1 : decide (4 + x7_1.size ≤ 9223372036854775807) = true := decide_eq_true c16
                          try have c16b2 : (9223372036854775807 < 4 + x7_1.size) = False := eq_false (Nat.not_lt.2 c16)
                          by_cases c17 : x11_3.size + 1 ≤ 9223372036854775807
                          · rw [if_pos c17] at H
                            have c17b0 := eq_true c17
                            have c17b1 : decide (x11_3.size + 1 ≤ 9223372036854775807) = true := decide_eq_true c17
                            try have c17b2 : (9223372036854775807 < x11_3.size + 1) = False := eq_false (Nat.not_lt.2 c17)
                            by_cases c18 : (x11_3 ++ (⟨#[64]⟩ : ByteArray)).size + x7_1.size ≤ 9223372036854775807
                            · rw [if_pos c18] at H
                              have c18b0 := eq_true c18
                              have c18b1 : decide ((x11_3 ++ (⟨#[64]⟩ : ByteArray)).size + x7_1.size ≤ 9223372036854775807) = true := decide_eq_true c18
                              try have c18b2 : (9223372036854775807 < (x11_3 ++ (⟨#[64]⟩ : ByteArray)).size + x7_1.size) = False := eq_false (Nat.not_lt.2 c18)
                              by_cases c19 : (x11_3 ++ (⟨#[64]⟩ : ByteArray)).size + x9_2.size ≤ 9223372036854775807
                              · rw [if_pos c19] at H
                                have c19b0 := eq_true c19
                                have c19b1 : decide ((x11_3 ++ (⟨#[64]⟩ : ByteArray)).size + x9_2.size ≤ 9223372036854775807) = true := decide_eq_true c19
                                try have c19b2 : (9223372036854775807 < (x11_3 ++ (⟨#[64]⟩ : ByteArray)).size + x9_2.size) = False := eq_false (Nat.not_lt.2 c19)
                                obtain ⟨y226, hy226⟩ : ∃ y_ : List ByteArray, y_ = (([x7_1, x9_2, (⟨#[42, 46]⟩ : ByteArray) ++ x9_2, (⟨#[46]⟩ : ByteArray) ++ x9_2, (⟨#[42, 46, 121, 46]⟩ : ByteArray) ++ x7_1, (x11_3 ++ (⟨#[64]⟩ : ByteArray)) ++ x7_1, (x11_3 ++ (⟨#[64]⟩ : ByteArray)) ++ x9_2, (⟨#[109, 64]⟩ : ByteArray) ++ x9_2] : List ByteArray)) := ⟨_, rfl⟩
                                replace H : (certpathlaw08_HostLong.l3 k3 y226 (y226.length : Int) 0) = some r := by first | (rw [hy226]; with_reducible exact H) | (have H2_ := (Option.bind_some _ _).symm.trans H; rw [hy226]; with_reducible exact H2_) | (have H2_ := (Option.bind_some _ _).symm.trans H; with_reducible exact H2_) | with_reducible exact H | (rw [hy226]; exact H) | exact H
                                have Ny226 := Aside0.mk hy226
                                clear hy226
                                have H' := Aside0.mk H
                                clear H
                                go_wp2_with (first | ((with_reducible refine gate_dst (N := 69) rfl ?_); refine Kd.R_lit Kd.string _ 9 ?hg (N := 69) ?hd (xs := ([x7_1, x9_2, (⟨#[42, 46]⟩ : ByteArray) ++ x9_2, (⟨#[46]⟩ : ByteArray) ++ x9_2, (⟨#[42, 46, 121, 46]⟩ : ByteArray) ++ x7_1, (x11_3 ++ (⟨#[64]⟩ : ByteArray)) ++ x7_1, (x11_3 ++ (⟨#[64]⟩ : ByteArray)) ++ x9_2, (⟨#[109, 64]⟩ : ByteArray) ++ x9_2] : List ByteArray)) (inner := [.string x7_1, .string x9_2, .string ((⟨#[42, 46]⟩ : ByteArray) ++ x9_2), .string ((⟨#[46]⟩ : ByteArray) ++ x9_2), .string ((⟨#[42, 46, 121, 46]⟩ : ByteArray) ++ x7_1), .string ((x11_3 ++ (⟨#[64]⟩ : ByteArray)) ++ x7_1), .string ((x11_3 ++ (⟨#[64]⟩ : ByteArray)) ++ x9_2), .string ((⟨#[109, 64]⟩ : ByteArray) ++ x9_2)]) (ok := fun _ => True) (okp := fun _ => True) ?hr ?hp (fun _ hk => hk) trivial (Below.refl _ _) (Nat.le_refl _) (by simp) ?_; (case hd => rfl); (case hg => rfl); (case hr => first | (go_simp; done) | (go_simp; rfl)); (case hp => exact (Reps.one (show Kd.M Kd.string _ _ _ x7_1 [.string x7_1] from rfl) (Reps.one (show Kd.M Kd.string _ _ _ x9_2 [.string x9_2] from rfl) (Reps.one (show Kd.M Kd.string _ _ _ ((⟨#[42, 46]⟩ : ByteArray) ++ x9_2) [.string ((⟨#[42, 46]⟩ : ByteArray) ++ x9_2)] from rfl) (Reps.one (show Kd.M Kd.string _ _ _ ((⟨#[46]⟩ : ByteArray) ++ x9_2) [.string ((⟨#[46]⟩ : ByteArray) ++ x9_2)] from rfl) (Reps.one (show Kd.M Kd.string _ _ _ ((⟨#[42, 46, 121, 46]⟩ : ByteArray) ++ x7_1) [.string ((⟨#[42, 46, 121, 46]⟩ : ByteArray) ++ x7_1)] from rfl) (Reps.one (show Kd.M Kd.string _ _ _ ((x11_3 ++ (⟨#[64]⟩ : ByteArray)) ++ x7_1) [.string ((x11_3 ++ (⟨#[64]⟩ : ByteArray)) ++ x7_1)] from rfl) (Reps.one (show Kd.M Kd.string _ _ _ ((x11_3 ++ (⟨#[64]⟩ : ByteArray)) ++ x9_2) [.string ((x11_3 ++ (⟨#[64]⟩ : ByteArray)) ++ x9_2)] from rfl) (Reps.one (show Kd.M Kd.string _ _ _ ((⟨#[109, 64]⟩ : ByteArray) ++ x9_2) [.string ((⟨#[109, 64]⟩ : ByteArray) ++ x9_2)] from rfl) (Reps.none _ _)))))))))); intro v227 w20 ho21 hb hg_ hnew_; clear hg_ hnew_; (first | rw [← Ny226.out] at ho21 | (simp only [Int.reduceToNat] at ho21; rw [← Ny226.out] at ho21)); have n0_ := Aside0.mk (Kd.R_lower ho21 (below_size (by repeat (first | (with_reducible first | exact HB.out | apply below_alloc | apply pw_below_drewN | apply below_drew1) | exact HB.out)))); have n1_ := Aside0.mk (below_step (by repeat (first | (with_reducible first | exact HB.out | apply below_alloc | apply pw_below_drewN | apply below_drew1) | exact HB.out)) hb); clear HB; have HO228 := n0_; have HB := n1_; clear n0_ n1_; clear hb ho21; obtain ⟨Ao22, co22, eo22⟩ := Kd.R_slice HO228.out; subst eo22))
                                go_loopg [71] k3 (fun kq v71 w' => ∃ (x71_4 : Int), v71 = .int .i64 x71_4 ∧ Aside0 (certpathlaw08_HostLong.l3 kq y226 (y226.length : Int) x71_4 = some r) ∧ Aside0 (kq ≤ k3) ∧ Aside0 (Kd.R Kd.string 9 w' w.heap.size (fun _ => True) (.slice Ao22 y226.length co22) y226) ∧ Aside0 (Below w.heap.size w w'))
                                case atStart => exact ⟨(0), (by first | rfl | (simp; done) | (simp [*]; done)), H', ⟨Nat.le_refl _⟩, ⟨by (with_reducible repeat (first | apply Kd.R_alloc | apply Kd.R_drewN | apply Kd.R_drew)); exact HO228.out⟩, ⟨by repeat (first | (with_reducible first | exact HB.out | apply below_alloc | apply pw_below_drewN | apply below_drew1) | exact HB.out)⟩⟩
                                case round =>
                                  clear H'
                                  try clear c1
                                  try clear p2
                                  try clear c4
                                  try clear c4b0
                                  try clear c5
                                  try clear c5b0
                                  try clear c5b1
                                  try clear c5b2
                                  try clear c6
                                  try clear c6b0
                                  try clear p6
                                  try clear c8
                                  try clear c8b0
                                  try clear c8b1
                                  try clear c9
                                  try clear c9b0
                                  try clear c9b1
                                  try clear c10
                                  try clear c10b0
                                  try clear c10b1
                                  try clear c11
                                  try clear c11b0
                                  try clear c11b1
                                  try clear c11b2
                                  try clear c12
                                  try clear c12b0
                                  try clear c13
                                  try clear c13b0
                                  try clear c13b1
                                  try clear c13b2
                                  try clear c14
                                  try clear c14b0
                                  try clear c14b1
                                  try clear c14b2
                                  try clear c15
                                  try clear c15b0
                                  try clear c15b1
                                  try clear c15b2
                                  try clear c16
                                  try clear c16b0
                                  try clear c16b1
                                  try clear c16b2
                                  try clear c17
                                  try clear c17b0
                                  try clear c17b1
                                  try clear c17b2
                                  try clear c18
                                  try clear c18b0
                                  try clear c18b1
                                  try clear c18b2
                                  try clear c19
                                  try clear c19b0
                                  try clear c19b1
                                  try clear c19b2
                                  try clear p2
                                  try clear p6
                                  obtain ⟨x71_4, rfl, HA, HK4, HO_69, HB⟩ := hrel
                                  cases gk with
                                  | zero => exact absurd HA.out (by simp [certpathlaw08_HostLong.l3])
                                  | succ k4 =>
                                    have H := HA.out
                                    clear HA
                                    simp only [certpathlaw08_HostLong.l3] at H
                                    by_cases c23 : x71_4 < (y226.length : Int)
                                    · rw [if_pos c23] at H
                                      have c23b0 : decide (x71_4 < (y226.length : Int)) = true := decide_eq_true c23
                                      clear c23
                                      by_cases c24 : 0 ≤ x71_4
                                      · rw [if_pos c24] at H
                                        have c24b0 : decide (0 ≤ x71_4) = true := decide_eq_true c24
                                        clear c24
                                        by_cases c25 : x71_4 < (y226.length : Int)
                                        · rw [if_pos c25] at H
                                          have c25b0 : decide (x71_4 < (y226.length : Int)) = true := decide_eq_true c25
                                          clear c25
                                          replace H := Option.bind_eq_some_iff.mp H
                                          obtain ⟨t231, A260, H⟩ := H
                                          replace H : ((certpathref07_DNS.f k4 (rdOf ByteArray.empty y226 x71_4)).bind fun t232 => (if (t231 != t232) = true then (some false) else ((host_Pattern.f k4 (rdOf ByteArray.empty y226 x71_4)).bind fun t233 => ((certpathref07_Pattern.f k4 (rdOf ByteArray.empty y226 x71_4)).bind fun t234 => (if (t233 != t234) = true then (some false) else ((host_Mail.f k4 (rdOf ByteArray.empty y226 x71_4)).bind fun t235 => ((certpathref07_Mail.f k4 (rdOf ByteArray.empty y226 x71_4)).bind fun t236 => (if (t235 != t236) = true then (some false) else ((host_MailBase.f k4 (rdOf ByteArray.empty y226 x71_4)).bind fun t237 => ((certpathref07_MailBase.f k4 (rdOf ByteArray.empty y226 x71_4)).bind fun t238 => (if (t237 != t238) = true then (some false) else (certpathlaw08_HostLong.l3 k4 y226 (y226.length : Int) (wrap64 (x71_4 + 1)))))))))))))) = some r := H
                                          have A26 := Aside0.mk A260
                                          clear A260
                                          replace H := Option.bind_eq_some_iff.mp H
                                          obtain ⟨t232, A270, H⟩ := H
                                          replace H : (if (t231 != t232) = true then (some false) else ((host_Pattern.f k4 (rdOf ByteArray.empty y226 x71_4)).bind fun t233 => ((certpathref07_Pattern.f k4 (rdOf ByteArray.empty y226 x71_4)).bind fun t234 => (if (t233 != t234) = true then (some false) else ((host_Mail.f k4 (rdOf ByteArray.empty y226 x71_4)).bind fun t235 => ((certpathref07_Mail.f k4 (rdOf ByteArray.empty y226 x71_4)).bind fun t236 => (if (t235 != t236) = true then (some false) else ((host_MailBase.f k4 (rdOf ByteArray.empty y226 x71_4)).bind fun t237 => ((certpathref07_MailBase.f k4 (rdOf ByteArray.empty y226 x71_4)).bind fun t238 => (if (t237 != t238) = true then (some false) else (certpathlaw08_HostLong.l3 k4 y226 (y226.length : Int) (wrap64 (x71_4 + 1))))))))))))) = some r := H
                                          have A27 := Aside0.mk A270
                                          clear A270
                                          by_cases c28 : (t231 != t232) = true
                                          · rw [if_pos c28] at H
                                            have c28b0 : (t231 != t232) = true := c28
                                            (try (have c28b1 : decide (t231 = t232) = false := by simpa using c28))
                                            (try (have c28b2 : (t231 == t232) = false := by simpa using c28))
                                            (try (have c28b3 : ¬ (t231 = t232) := by simpa using c28))
                                            clear c28
                                            obtain rfl := Option.some.inj H
                                            have p230 : 0 ≤ (x71_4 : Int) := of_decide_eq_true (by first | (with_reducible assumption) | assumption)
                                            have q230 : x71_4 < (y226.length : Int) := of_decide_eq_true (by first | (with_reducible assumption) | assumption)
                                            obtain ⟨ad230, e230, hx230_0⟩ := Kd.at_string (Kd.R_reads' HO_69.out).2.2 x71_4 p230 q230
                                            cases e230
                                            replace p230 := eq_true p230
                                            replace q230 := eq_true q230
                                            go_wp2_with (first | ((with_reducible refine gate_callee (f := 13) rfl ?_); refine goesL_ (some 76) rfl rfl Tryd.func13 (by kernel_rfl) rfl #[.string (rdOf ByteArray.empty y226 x71_4)] rfl (by (try simp only [List.map_toArray, List.map_cons, List.map_nil]); first | done | rfl | (simp only [List.length_drop, List.length_take]; rfl)) ?_; (with_reducible refine (host_DNS.calls k4 (rdOf ByteArray.empty y226 x71_4) t231 _ ?side1 A26.out).mono ?_); (case side1 => refine Ext.G.step ?_ hG_; repeat (first | (with_reducible first | exact HB.out | apply below_alloc | apply pw_below_drewN | apply below_drew1) | exact HB.out)); rintro e w29 ⟨rfl, hb⟩; refine ⟨_, rfl, ?_⟩; have n0_ := Aside0.mk (Kd.R_below (by (with_reducible repeat (first | apply Kd.R_alloc | apply Kd.R_drewN | apply Kd.R_drew)); exact HO_69.out) hb); have n1_ := Aside0.mk (below_step (by repeat (first | (with_reducible first | exact HB.out | apply below_alloc | apply pw_below_drewN | apply below_drew1) | exact HB.out)) hb); clear HO_69; clear HB; have HO_69 := n0_; have HB := n1_; clear n0_ n1_; (try clear hb); (try clear hb2); (try clear hk); (try clear hi)) | ((with_reducible refine gate_callee (f := 14) rfl ?_); refine goesL_ (some 78) rfl rfl Tryd.func14 (by kernel_rfl) rfl #[.string (rdOf ByteArray.empty y226 x71_4)] rfl (by (try simp only [List.map_toArray, List.map_cons, List.map_nil]); first | done | rfl | (simp only [List.length_drop, List.length_take]; rfl)) ?_; (with_reducible refine (certpathref07_DNS.calls k4 (rdOf ByteArray.empty y226 x71_4) t232 _ ?side1 A27.out).mono ?_); (case side1 => refine Ext.G.step ?_ hG_; repeat (first | (with_reducible first | exact HB.out | apply below_alloc | apply pw_below_drewN | apply below_drew1) | exact HB.out)); rintro e w30 ⟨rfl, hb⟩; refine ⟨_, rfl, ?_⟩; have n0_ := Aside0.mk (Kd.R_below (by (with_reducible repeat (first | apply Kd.R_alloc | apply Kd.R_drewN | apply Kd.R_drew)); exact HO_69.out) hb); have n1_ := Aside0.mk (below_step (by repeat (first | (with_reducible first | exact HB.out | apply below_alloc | apply pw_below_drewN | apply below_drew1) | exact HB.out)) hb); clear HO_69; clear HB; have HO_69 := n0_; have HB := n1_; clear n0_ n1_; (try clear hb); (try clear hb2); (try clear hk); (try clear hi)))
                                            go_ret
                                            exact ⟨by first | rfl | (simp [errW_none, errW_some] <;> rfl) | (simp [*, errW_none, errW_some] <;> rfl), by repeat (first | (with_reducible first | exact HB.out | apply below_alloc | apply pw_below_drewN | apply below_drew1) | exact HB.out)⟩
                                          · rw [if_neg c28] at H
                                            have c28b0 : (t231 != t232) = false := by simpa using c28
                                            (try (have c28b1 : decide (t231 = t232) = true := by simpa using c28))
                                            (try (have c28b2 : (t231 == t232) = true := by simpa using c28))
                                            clear c28
                                            replace H := Option.bind_eq_some_iff.mp H
                                            obtain ⟨t233, A310, H⟩ := H
                                            replace H : ((certpathref07_Pattern.f k4 (rdOf ByteArray.empty y226 x71_4)).bind fun t234 => (if (t233 != t234) = true then (some false) else ((host_Mail.f k4 (rdOf ByteArray.empty y226 x71_4)).bind fun t235 => ((certpathref07_Mail.f k4 (rdOf ByteArray.empty y226 x71_4)).bind fun t236 => (if (t235 != t236) = true then (some false) else ((host_MailBase.f k4 (rdOf ByteArray.empty y226 x71_4)).bind fun t237 => ((certpathref07_MailBase.f k4 (rdOf ByteArray.empty y226 x71_4)).bind fun t238 => (if (t237 != t238) = true then (some false) else (certpathlaw08_HostLong.l3 k4 y226 (y226.length : Int) (wrap64 (x71_4 + 1))))))))))) = some r := H
                                            have A31 := Aside0.mk A310
                                            clear A310
                                            replace H := Option.bind_eq_some_iff.mp H
                                            obtain ⟨t234, A320, H⟩ := H
                                            replace H : (if (t233 != t234) = true then (some false) else ((host_Mail.f k4 (rdOf ByteArray.empty y226 x71_4)).bind fun t235 => ((certpathref07_Mail.f k4 (rdOf ByteArray.empty y226 x71_4)).bind fun t236 => (if (t235 != t236) = true then (some false) else ((host_MailBase.f k4 (rdOf ByteArray.empty y226 x71_4)).bind fun t237 => ((certpathref07_MailBase.f k4 (rdOf ByteArray.empty y226 x71_4)).bind fun t238 => (if (t237 != t238) = true then (some false) else (certpathlaw08_HostLong.l3 k4 y226 (y226.length : Int) (wrap64 (x71_4 + 1)))))))))) = some r := H
                                            have A32 := Aside0.mk A320
                                            clear A320
                                            by_cases c33 : (t233 != t234) = true
                                            · rw [if_pos c33] at H
                                              have c33b0 : (t233 != t234) = true := c33
                                              (try (have c33b1 : decide (t233 = t234) = false := by simpa using c33))
                                              (try (have c33b2 : (t233 == t234) = false := by simpa using c33))
                                              (try (have c33b3 : ¬ (t233 = t234) := by simpa using c33))
                                              clear c33
                                              obtain rfl := Option.some.inj H
                                              have p230 : 0 ≤ (x71_4 : Int) := of_decide_eq_true (by first | (with_reducible assumption) | assumption)
                                              have q230 : x71_4 < (y226.length : Int) := of_decide_eq_true (by first | (with_reducible assumption) | assumption)
                                              obtain ⟨ad230, e230, hx230_0⟩ := Kd.at_string (Kd.R_reads' HO_69.out).2.2 x71_4 p230 q230
                                              cases e230
                                              replace p230 := eq_true p230
                                              replace q230 := eq_true q230
                                              go_wp2_with (first | ((with_reducible refine gate_callee (f := 13) rfl ?_); refine goesL_ (some 76) rfl rfl Tryd.func13 (by kernel_rfl) rfl #[.string (rdOf ByteArray.empty y226 x71_4)] rfl (by (try simp only [List.map_toArray, List.map_cons, List.map_nil]); first | done | rfl | (simp only [List.length_drop, List.length_take]; rfl)) ?_; (with_reducible refine (host_DNS.calls k4 (rdOf ByteArray.empty y226 x71_4) t231 _ ?side1 A26.out).mono ?_); (case side1 => refine Ext.G.step ?_ hG_; repeat (first | (with_reducible first | exact HB.out | apply below_alloc | apply pw_below_drewN | apply below_drew1) | exact HB.out)); rintro e w34 ⟨rfl, hb⟩; refine ⟨_, rfl, ?_⟩; have n0_ := Aside0.mk (Kd.R_below (by (with_reducible repeat (first | apply Kd.R_alloc | apply Kd.R_drewN | apply Kd.R_drew)); exact HO_69.out) hb); have n1_ := Aside0.mk (below_step (by repeat (first | (with_reducible first | exact HB.out | apply below_alloc | apply pw_below_drewN | apply below_drew1) | exact HB.out)) hb); clear HO_69; clear HB; have HO_69 := n0_; have HB := n1_; clear n0_ n1_; (try clear hb); (try clear hb2); (try clear hk); (try clear hi)) | ((with_reducible refine gate_callee (f := 14) rfl ?_); refine goesL_ (some 78) rfl rfl Tryd.func14 (by kernel_rfl) rfl #[.string (rdOf ByteArray.empty y226 x71_4)] rfl (by (try simp only [List.map_toArray, List.map_cons, List.map_nil]); first | done | rfl | (simp only [List.length_drop, List.length_take]; rfl)) ?_; (with_reducible refine (certpathref07_DNS.calls k4 (rdOf ByteArray.empty y226 x71_4) t232 _ ?side1 A27.out).mono ?_); (case side1 => refine Ext.G.step ?_ hG_; repeat (first | (with_reducible first | exact HB.out | apply below_alloc | apply pw_below_drewN | apply below_drew1) | exact HB.out)); rintro e w35 ⟨rfl, hb⟩; refine ⟨_, rfl, ?_⟩; have n0_ := Aside0.mk (Kd.R_below (by (with_reducible repeat (first | apply Kd.R_alloc | apply Kd.R_drewN | apply Kd.R_drew)); exact HO_69.out) hb); have n1_ := Aside0.mk (below_step (by repeat (first | (with_reducible first | exact HB.out | apply below_alloc | apply pw_below_drewN | apply below_drew1) | exact HB.out)) hb); clear HO_69; clear HB; have HO_69 := n0_; have HB := n1_; clear n0_ n1_; (try clear hb); (try clear hb2); (try clear hk); (try clear hi)) | (go_at_call 15; (with_reducible refine (host_Pattern.calls k4 (rdOf ByteArray.empty y226 x71_4) t233 _ ?side1 A31.out).mono ?_); (case side1 => refine Ext.G.step ?_ hG_; repeat (first | (with_reducible first | exact HB.out | apply below_alloc | apply pw_below_drewN | apply below_drew1) | exact HB.out)); rintro e w36 ⟨rfl, hb⟩; have n0_ := Aside0.mk (Kd.R_below (by (with_reducible repeat (first | apply Kd.R_alloc | apply Kd.R_drewN | apply Kd.R_drew)); exact HO_69.out) hb); have n1_ := Aside0.mk (below_step (by repeat (first | (with_reducible first | exact HB.out | apply below_alloc | apply pw_below_drewN | apply below_drew1) | exact HB.out)) hb); clear HO_69; clear HB; have HO_69 := n0_; have HB := n1_; clear n0_ n1_; (try clear hb); (try clear hb2); (try clear hk); (try clear hi)) | (go_at_call 16; (with_reducible refine (certpathref07_Pattern.calls k4 (rdOf ByteArray.empty y226 x71_4) t234 _ ?side1 A32.out).mono ?_); (case side1 => refine Ext.G.step ?_ hG_; repeat (first | (with_reducible first | exact HB.out | apply below_alloc | apply pw_below_drewN | apply below_drew1) | exact HB.out)); rintro e w37 ⟨rfl, hb⟩; have n0_ := Aside0.mk (Kd.R_below (by (with_reducible repeat (first | apply Kd.R_alloc | apply Kd.R_drewN | apply Kd.R_drew)); exact HO_69.out) hb); have n1_ := Aside0.mk (below_step (by repeat (first | (with_reducible first | exact HB.out | apply below_alloc | apply pw_below_drewN | apply below_drew1) | exact HB.out)) hb); clear HO_69; clear HB; have HO_69 := n0_; have HB := n1_; clear n0_ n1_; (try clear hb); (try clear hb2); (try clear hk); (try clear hi)))
                                              go_ret
                                              exact ⟨by first | rfl | (simp [errW_none, errW_some] <;> rfl) | (simp [*, errW_none, errW_some] <;> rfl), by repeat (first | (with_reducible first | exact HB.out | apply below_alloc | apply pw_below_drewN | apply below_drew1) | exact HB.out)⟩
                                            · rw [if_neg c33] at H
                                              have c33b0 : (t233 != t234) = false := by simpa using c33
                                              (try (have c33b1 : decide (t233 = t234) = true := by simpa using c33))
                                              (try (have c33b2 : (t233 == t234) = true := by simpa using c33))
                                              clear c33
                                              replace H := Option.bind_eq_some_iff.mp H
                                              obtain ⟨t235, A380, H⟩ := H
                                              replace H : ((certpathref07_Mail.f k4 (rdOf ByteArray.empty y226 x71_4)).bind fun t236 => (if (t235 != t236) = true then (some false) else ((host_MailBase.f k4 (rdOf ByteArray.empty y226 x71_4)).bind fun t237 => ((certpathref07_MailBase.f k4 (rdOf ByteArray.empty y226 x71_4)).bind fun t238 => (if (t237 != t238) = true then (some false) else (certpathlaw08_HostLong.l3 k4 y226 (y226.length : Int) (wrap64 (x71_4 + 1)))))))) = some r := H
                                              have A38 := Aside0.mk A380
                                              clear A380
                                              replace H := Option.bind_eq_some_iff.mp H
                                              obtain ⟨t236, A390, H⟩ := H
                                              replace H : (if (t235 != t236) = true then (some false) else ((host_MailBase.f k4 (rdOf ByteArray.empty y226 x71_4)).bind fun t237 => ((certpathref07_MailBase.f k4 (rdOf ByteArray.empty y226 x71_4)).bind fun t238 => (if (t237 != t238) = true then (some false) else (certpathlaw08_HostLong.l3 k4 y226 (y226.length : Int) (wrap64 (x71_4 + 1))))))) = some r := H
                                              have A39 := Aside0.mk A390
                                              clear A390
                                              by_cases c40 : (t235 != t236) = true
                                              · rw [if_pos c40] at H
                                                have c40b0 : (t235 != t236) = true := c40
                                                (try (have c40b1 : decide (t235 = t236) = false := by simpa using c40))
                                                (try (have c40b2 : (t235 == t236) = false := by simpa using c40))
                                                (try (have c40b3 : ¬ (t235 = t236) := by simpa using c40))
                                                clear c40
                                                obtain rfl := Option.some.inj H
                                                have p230 : 0 ≤ (x71_4 : Int) := of_decide_eq_true (by first | (with_reducible assumption) | assumption)
                                                have q230 : x71_4 < (y226.length : Int) := of_decide_eq_true (by first | (with_reducible assumption) | assumption)
                                                obtain ⟨ad230, e230, hx230_0⟩ := Kd.at_string (Kd.R_reads' HO_69.out).2.2 x71_4 p230 q230
                                                cases e230
                                                replace p230 := eq_true p230
                                                replace q230 := eq_true q230
                                                go_wp2_with (first | ((with_reducible refine gate_callee (f := 13) rfl ?_); refine goesL_ (some 76) rfl rfl Tryd.func13 (by kernel_rfl) rfl #[.string (rdOf ByteArray.empty y226 x71_4)] rfl (by (try simp only [List.map_toArray, List.map_cons, List.map_nil]); first | done | rfl | (simp only [List.length_drop, List.length_take]; rfl)) ?_; (with_reducible refine (host_DNS.calls k4 (rdOf ByteArray.empty y226 x71_4) t231 _ ?side1 A26.out).mono ?_); (case side1 => refine Ext.G.step ?_ hG_; repeat (first | (with_reducible first | exact HB.out | apply below_alloc | apply pw_below_drewN | apply below_drew1) | exact HB.out)); rintro e w41 ⟨rfl, hb⟩; refine ⟨_, rfl, ?_⟩; have n0_ := Aside0.mk (Kd.R_below (by (with_reducible repeat (first | apply Kd.R_alloc | apply Kd.R_drewN | apply Kd.R_drew)); exact HO_69.out) hb); have n1_ := Aside0.mk (below_step (by repeat (first | (with_reducible first | exact HB.out | apply below_alloc | apply pw_below_drewN | apply below_drew1) | exact HB.out)) hb); clear HO_69; clear HB; have HO_69 := n0_; have HB := n1_; clear n0_ n1_; (try clear hb); (try clear hb2); (try clear hk); (try clear hi)) | ((with_reducible refine gate_callee (f := 14) rfl ?_); refine goesL_ (some 78) rfl rfl Tryd.func14 (by kernel_rfl) rfl #[.string (rdOf ByteArray.empty y226 x71_4)] rfl (by (try simp only [List.map_toArray, List.map_cons, List.map_nil]); first | done | rfl | (simp only [List.length_drop, List.length_take]; rfl)) ?_; (with_reducible refine (certpathref07_DNS.calls k4 (rdOf ByteArray.empty y226 x71_4) t232 _ ?side1 A27.out).mono ?_); (case side1 => refine Ext.G.step ?_ hG_; repeat (first | (with_reducible first | exact HB.out | apply below_alloc | apply pw_below_drewN | apply below_drew1) | exact HB.out)); rintro e w42 ⟨rfl, hb⟩; refine ⟨_, rfl, ?_⟩; have n0_ := Aside0.mk (Kd.R_below (by (with_reducible repeat (first | apply Kd.R_alloc | apply Kd.R_drewN | apply Kd.R_drew)); exact HO_69.out) hb); have n1_ := Aside0.mk (below_step (by repeat (first | (with_reducible first | exact HB.out | apply below_alloc | apply pw_below_drewN | apply below_drew1) | exact HB.out)) hb); clear HO_69; clear HB; have HO_69 := n0_; have HB := n1_; clear n0_ n1_; (try clear hb); (try clear hb2); (try clear hk); (try clear hi)) | (go_at_call 15; (with_reducible refine (host_Pattern.calls k4 (rdOf ByteArray.empty y226 x71_4) t233 _ ?side1 A31.out).mono ?_); (case side1 => refine Ext.G.step ?_ hG_; repeat (first | (with_reducible first | exact HB.out | apply below_alloc | apply pw_below_drewN | apply below_drew1) | exact HB.out)); rintro e w43 ⟨rfl, hb⟩; have n0_ := Aside0.mk (Kd.R_below (by (with_reducible repeat (first | apply Kd.R_alloc | apply Kd.R_drewN | apply Kd.R_drew)); exact HO_69.out) hb); have n1_ := Aside0.mk (below_step (by repeat (first | (with_reducible first | exact HB.out | apply below_alloc | apply pw_below_drewN | apply below_drew1) | exact HB.out)) hb); clear HO_69; clear HB; have HO_69 := n0_; have HB := n1_; clear n0_ n1_; (try clear hb); (try clear hb2); (try clear hk); (try clear hi)) | (go_at_call 16; (with_reducible refine (certpathref07_Pattern.calls k4 (rdOf ByteArray.empty y226 x71_4) t234 _ ?side1 A32.out).mono ?_); (case side1 => refine Ext.G.step ?_ hG_; repeat (first | (with_reducible first | exact HB.out | apply below_alloc | apply pw_below_drewN | apply below_drew1) | exact HB.out)); rintro e w44 ⟨rfl, hb⟩; have n0_ := Aside0.mk (Kd.R_below (by (with_reducible repeat (first | apply Kd.R_alloc | apply Kd.R_drewN | apply Kd.R_drew)); exact HO_69.out) hb); have n1_ := Aside0.mk (below_step (by repeat (first | (with_reducible first | exact HB.out | apply below_alloc | apply pw_below_drewN | apply below_drew1) | exact HB.out)) hb); clear HO_69; clear HB; have HO_69 := n0_; have HB := n1_; clear n0_ n1_; (try clear hb); (try clear hb2); (try clear hk); (try clear hi)) | (go_at_call 19; (with_reducible refine (host_Mail.calls k4 (rdOf ByteArray.empty y226 x71_4) t235 _ ?side1 A38.out).mono ?_); (case side1 => refine Ext.G.step ?_ hG_; repeat (first | (with_reducible first | exact HB.out | apply below_alloc | apply pw_below_drewN | apply below_drew1) | exact HB.out)); rintro e w45 ⟨rfl, hb⟩; have n0_ := Aside0.mk (Kd.R_below (by (with_reducible repeat (first | apply Kd.R_alloc | apply Kd.R_drewN | apply Kd.R_drew)); exact HO_69.out) hb); have n1_ := Aside0.mk (below_step (by repeat (first | (with_reducible first | exact HB.out | apply below_alloc | apply pw_below_drewN | apply below_drew1) | exact HB.out)) hb); clear HO_69; clear HB; have HO_69 := n0_; have HB := n1_; clear n0_ n1_; (try clear hb); (try clear hb2); (try clear hk); (try clear hi)) | (go_at_call 20; (with_reducible refine (certpathref07_Mail.calls k4 (rdOf ByteArray.empty y226 x71_4) t236 _ ?side1 A39.out).mono ?_); (case side1 => refine Ext.G.step ?_ hG_; repeat (first | (with_reducible first | exact HB.out | apply below_alloc | apply pw_below_drewN | apply below_drew1) | exact HB.out)); rintro e w46 ⟨rfl, hb⟩; have n0_ := Aside0.mk (Kd.R_below (by (with_reducible repeat (first | apply Kd.R_alloc | apply Kd.R_drewN | apply Kd.R_drew)); exact HO_69.out) hb); have n1_ := Aside0.mk (below_step (by repeat (first | (with_reducible first | exact HB.out | apply below_alloc | apply pw_below_drewN | apply below_drew1) | exact HB.out)) hb); clear HO_69; clear HB; have HO_69 := n0_; have HB := n1_; clear n0_ n1_; (try clear hb); (try clear hb2); (try clear hk); (try clear hi)))
                                                go_ret
                                                exact ⟨by first | rfl | (simp [errW_none, errW_some] <;> rfl) | (simp [*, errW_none, errW_some] <;> rfl), by repeat (first | (with_reducible first | exact HB.out | apply below_alloc | apply pw_below_drewN | apply below_drew1) | exact HB.out)⟩
                                              · rw [if_neg c40] at H
                                                have c40b0 : (t235 != t236) = false := by simpa using c40
                                                (try (have c40b1 : decide (t235 = t236) = true := by simpa using c40))
                                                (try (have c40b2 : (t235 == t236) = true := by simpa using c40))
                                                clear c40
                                                replace H := Option.bind_eq_some_iff.mp H
                                                obtain ⟨t237, A470, H⟩ := H
                                                replace H : ((certpathref07_MailBase.f k4 (rdOf ByteArray.empty y226 x71_4)).bind fun t238 => (if (t237 != t238) = true then (some false) else (certpathlaw08_HostLong.l3 k4 y226 (y226.length : Int) (wrap64 (x71_4 + 1))))) = some r := H
                                                have A47 := Aside0.mk A470
                                                clear A470
                                                replace H := Option.bind_eq_some_iff.mp H
                                                obtain ⟨t238, A480, H⟩ := H
                                                replace H : (if (t237 != t238) = true then (some false) else (certpathlaw08_HostLong.l3 k4 y226 (y226.length : Int) (wrap64 (x71_4 + 1)))) = some r := H
                                                have A48 := Aside0.mk A480
                                                clear A480
                                                by_cases c49 : (t237 != t238) = true
                                                · rw [if_pos c49] at H
                                                  have c49b0 : (t237 != t238) = true := c49
                                                  (try (have c49b1 : decide (t237 = t238) = false := by simpa using c49))
                                                  (try (have c49b2 : (t237 == t238) = false := by simpa using c49))
                                                  (try (have c49b3 : ¬ (t237 = t238) := by simpa using c49))
                                                  clear c49
                                                  obtain rfl := Option.some.inj H
                                                  have p230 : 0 ≤ (x71_4 : Int) := of_decide_eq_true (by first | (with_reducible assumption) | assumption)
                                                  have q230 : x71_4 < (y226.length : Int) := of_decide_eq_true (by first | (with_reducible assumption) | assumption)
                                                  obtain ⟨ad230, e230, hx230_0⟩ := Kd.at_string (Kd.R_reads' HO_69.out).2.2 x71_4 p230 q230
                                                  cases e230
                                                  replace p230 := eq_true p230
                                                  replace q230 := eq_true q230
                                                  go_wp2_with (first | ((with_reducible refine gate_callee (f := 13) rfl ?_); refine goesL_ (some 76) rfl rfl Tryd.func13 (by kernel_rfl) rfl #[.string (rdOf ByteArray.empty y226 x71_4)] rfl (by (try simp only [List.map_toArray, List.map_cons, List.map_nil]); first | done | rfl | (simp only [List.length_drop, List.length_take]; rfl)) ?_; (with_reducible refine (host_DNS.calls k4 (rdOf ByteArray.empty y226 x71_4) t231 _ ?side1 A26.out).mono ?_); (case side1 => refine Ext.G.step ?_ hG_; repeat (first | (with_reducible first | exact HB.out | apply below_alloc | apply pw_below_drewN | apply below_drew1) | exact HB.out)); rintro e w50 ⟨rfl, hb⟩; refine ⟨_, rfl, ?_⟩; have n0_ := Aside0.mk (Kd.R_below (by (with_reducible repeat (first | apply Kd.R_alloc | apply Kd.R_drewN | apply Kd.R_drew)); exact HO_69.out) hb); have n1_ := Aside0.mk (below_step (by repeat (first | (with_reducible first | exact HB.out | apply below_alloc | apply pw_below_drewN | apply below_drew1) | exact HB.out)) hb); clear HO_69; clear HB; have HO_69 := n0_; have HB := n1_; clear n0_ n1_; (try clear hb); (try clear hb2); (try clear hk); (try clear hi)) | ((with_reducible refine gate_callee (f := 14) rfl ?_); refine goesL_ (some 78) rfl rfl Tryd.func14 (by kernel_rfl) rfl #[.string (rdOf ByteArray.empty y226 x71_4)] rfl (by (try simp only [List.map_toArray, List.map_cons, List.map_nil]); first | done | rfl | (simp only [List.length_drop, List.length_take]; rfl)) ?_; (with_reducible refine (certpathref07_DNS.calls k4 (rdOf ByteArray.empty y226 x71_4) t232 _ ?side1 A27.out).mono ?_); (case side1 => refine Ext.G.step ?_ hG_; repeat (first | (with_reducible first | exact HB.out | apply below_alloc | apply pw_below_drewN | apply below_drew1) | exact HB.out)); rintro e w51 ⟨rfl, hb⟩; refine ⟨_, rfl, ?_⟩; have n0_ := Aside0.mk (Kd.R_below (by (with_reducible repeat (first | apply Kd.R_alloc | apply Kd.R_drewN | apply Kd.R_drew)); exact HO_69.out) hb); have n1_ := Aside0.mk (below_step (by repeat (first | (with_reducible first | exact HB.out | apply below_alloc | apply pw_below_drewN | apply below_drew1) | exact HB.out)) hb); clear HO_69; clear HB; have HO_69 := n0_; have HB := n1_; clear n0_ n1_; (try clear hb); (try clear hb2); (try clear hk); (try clear hi)) | (go_at_call 15; (with_reducible refine (host_Pattern.calls k4 (rdOf ByteArray.empty y226 x71_4) t233 _ ?side1 A31.out).mono ?_); (case side1 => refine Ext.G.step ?_ hG_; repeat (first | (with_reducible first | exact HB.out | apply below_alloc | apply pw_below_drewN | apply below_drew1) | exact HB.out)); rintro e w52 ⟨rfl, hb⟩; have n0_ := Aside0.mk (Kd.R_below (by (with_reducible repeat (first | apply Kd.R_alloc | apply Kd.R_drewN | apply Kd.R_drew)); exact HO_69.out) hb); have n1_ := Aside0.mk (below_step (by repeat (first | (with_reducible first | exact HB.out | apply below_alloc | apply pw_below_drewN | apply below_drew1) | exact HB.out)) hb); clear HO_69; clear HB; have HO_69 := n0_; have HB := n1_; clear n0_ n1_; (try clear hb); (try clear hb2); (try clear hk); (try clear hi)) | (go_at_call 16; (with_reducible refine (certpathref07_Pattern.calls k4 (rdOf ByteArray.empty y226 x71_4) t234 _ ?side1 A32.out).mono ?_); (case side1 => refine Ext.G.step ?_ hG_; repeat (first | (with_reducible first | exact HB.out | apply below_alloc | apply pw_below_drewN | apply below_drew1) | exact HB.out)); rintro e w53 ⟨rfl, hb⟩; have n0_ := Aside0.mk (Kd.R_below (by (with_reducible repeat (first | apply Kd.R_alloc | apply Kd.R_drewN | apply Kd.R_drew)); exact HO_69.out) hb); have n1_ := Aside0.mk (below_step (by repeat (first | (with_reducible first | exact HB.out | apply below_alloc | apply pw_below_drewN | apply below_drew1) | exact HB.out)) hb); clear HO_69; clear HB; have HO_69 := n0_; have HB := n1_; clear n0_ n1_; (try clear hb); (try clear hb2); (try clear hk); (try clear hi)) | (go_at_call 19; (with_reducible refine (host_Mail.calls k4 (rdOf ByteArray.empty y226 x71_4) t235 _ ?side1 A38.out).mono ?_); (case side1 => refine Ext.G.step ?_ hG_; repeat (first | (with_reducible first | exact HB.out | apply below_alloc | apply pw_below_drewN | apply below_drew1) | exact HB.out)); rintro e w54 ⟨rfl, hb⟩; have n0_ := Aside0.mk (Kd.R_below (by (with_reducible repeat (first | apply Kd.R_alloc | apply Kd.R_drewN | apply Kd.R_drew)); exact HO_69.out) hb); have n1_ := Aside0.mk (below_step (by repeat (first | (with_reducible first | exact HB.out | apply below_alloc | apply pw_below_drewN | apply below_drew1) | exact HB.out)) hb); clear HO_69; clear HB; have HO_69 := n0_; have HB := n1_; clear n0_ n1_; (try clear hb); (try clear hb2); (try clear hk); (try clear hi)) | (go_at_call 20; (with_reducible refine (certpathref07_Mail.calls k4 (rdOf ByteArray.empty y226 x71_4) t236 _ ?side1 A39.out).mono ?_); (case side1 => refine Ext.G.step ?_ hG_; repeat (first | (with_reducible first | exact HB.out | apply below_alloc | apply pw_below_drewN | apply below_drew1) | exact HB.out)); rintro e w55 ⟨rfl, hb⟩; have n0_ := Aside0.mk (Kd.R_below (by (with_reducible repeat (first | apply Kd.R_alloc | apply Kd.R_drewN | apply Kd.R_drew)); exact HO_69.out) hb); have n1_ := Aside0.mk (below_step (by repeat (first | (with_reducible first | exact HB.out | apply below_alloc | apply pw_below_drewN | apply below_drew1) | exact HB.out)) hb); clear HO_69; clear HB; have HO_69 := n0_; have HB := n1_; clear n0_ n1_; (try clear hb); (try clear hb2); (try clear hk); (try clear hi)) | (go_at_call 21; (with_reducible refine (host_MailBase.calls k4 (rdOf ByteArray.empty y226 x71_4) t237 _ ?side1 A47.out).mono ?_); (case side1 => refine Ext.G.step ?_ hG_; repeat (first | (with_reducible first | exact HB.out | apply below_alloc | apply pw_below_drewN | apply below_drew1) | exact HB.out)); rintro e w56 ⟨rfl, hb⟩; have n0_ := Aside0.mk (Kd.R_below (by (with_reducible repeat (first | apply Kd.R_alloc | apply Kd.R_drewN | apply Kd.R_drew)); exact HO_69.out) hb); have n1_ := Aside0.mk (below_step (by repeat (first | (with_reducible first | exact HB.out | apply below_alloc | apply pw_below_drewN | apply below_drew1) | exact HB.out)) hb); clear HO_69; clear HB; have HO_69 := n0_; have HB := n1_; clear n0_ n1_; (try clear hb); (try clear hb2); (try clear hk); (try clear hi)) | (go_at_call 22; (with_reducible refine (certpathref07_MailBase.calls k4 (rdOf ByteArray.empty y226 x71_4) t238 _ ?side1 A48.out).mono ?_); (case side1 => refine Ext.G.step ?_ hG_; repeat (first | (with_reducible first | exact HB.out | apply below_alloc | apply pw_below_drewN | apply below_drew1) | exact HB.out)); rintro e w57 ⟨rfl, hb⟩; have n0_ := Aside0.mk (Kd.R_below (by (with_reducible repeat (first | apply Kd.R_alloc | apply Kd.R_drewN | apply Kd.R_drew)); exact HO_69.out) hb); have n1_ := Aside0.mk (below_step (by repeat (first | (with_reducible first | exact HB.out | apply below_alloc | apply pw_below_drewN | apply below_drew1) | exact HB.out)) hb); clear HO_69; clear HB; have HO_69 := n0_; have HB := n1_; clear n0_ n1_; (try clear hb); (try clear hb2); (try clear hk); (try clear hi)))
                                                  go_ret
                                                  exact ⟨by first | rfl | (simp [errW_none, errW_some] <;> rfl) | (simp [*, errW_none, errW_some] <;> rfl), by repeat (first | (with_reducible first | exact HB.out | apply below_alloc | apply pw_below_drewN | apply below_drew1) | exact HB.out)⟩
                                                · rw [if_neg c49] at H
                                                  have c49b0 : (t237 != t238) = false := by simpa using c49
                                                  (try (have c49b1 : decide (t237 = t238) = true := by simpa using c49))
                                                  (try (have c49b2 : (t237 == t238) = true := by simpa using c49))
                                                  clear c49
                                                  have H' := Aside0.mk H
                                                  clear H
                                                  have p230 : 0 ≤ (x71_4 : Int) := of_decide_eq_true (by first | (with_reducible assumption) | assumption)
                                                  have q230 : x71_4 < (y226.length : Int) := of_decide_eq_true (by first | (with_reducible assumption) | assumption)
                                                  obtain ⟨ad230, e230, hx230_0⟩ := Kd.at_string (Kd.R_reads' HO_69.out).2.2 x71_4 p230 q230
                                                  cases e230
                                                  replace p230 := eq_true p230
                                                  replace q230 := eq_true q230
                                                  go_wp2_with (first | ((with_reducible refine gate_callee (f := 13) rfl ?_); refine goesL_ (some 76) rfl rfl Tryd.func13 (by kernel_rfl) rfl #[.string (rdOf ByteArray.empty y226 x71_4)] rfl (by (try simp only [List.map_toArray, List.map_cons, List.map_nil]); first | done | rfl | (simp only [List.length_drop, List.length_take]; rfl)) ?_; (with_reducible refine (host_DNS.calls k4 (rdOf ByteArray.empty y226 x71_4) t231 _ ?side1 A26.out).mono ?_); (case side1 => refine Ext.G.step ?_ hG_; repeat (first | (with_reducible first | exact HB.out | apply below_alloc | apply pw_below_drewN | apply below_drew1) | exact HB.out)); rintro e w58 ⟨rfl, hb⟩; refine ⟨_, rfl, ?_⟩; have n0_ := Aside0.mk (Kd.R_below (by (with_reducible repeat (first | apply Kd.R_alloc | apply Kd.R_drewN | apply Kd.R_drew)); exact HO_69.out) hb); have n1_ := Aside0.mk (below_step (by repeat (first | (with_reducible first | exact HB.out | apply below_alloc | apply pw_below_drewN | apply below_drew1) | exact HB.out)) hb); clear HO_69; clear HB; have HO_69 := n0_; have HB := n1_; clear n0_ n1_; (try clear hb); (try clear hb2); (try clear hk); (try clear hi)) | ((with_reducible refine gate_callee (f := 14) rfl ?_); refine goesL_ (some 78) rfl rfl Tryd.func14 (by kernel_rfl) rfl #[.string (rdOf ByteArray.empty y226 x71_4)] rfl (by (try simp only [List.map_toArray, List.map_cons, List.map_nil]); first | done | rfl | (simp only [List.length_drop, List.length_take]; rfl)) ?_; (with_reducible refine (certpathref07_DNS.calls k4 (rdOf ByteArray.empty y226 x71_4) t232 _ ?side1 A27.out).mono ?_); (case side1 => refine Ext.G.step ?_ hG_; repeat (first | (with_reducible first | exact HB.out | apply below_alloc | apply pw_below_drewN | apply below_drew1) | exact HB.out)); rintro e w59 ⟨rfl, hb⟩; refine ⟨_, rfl, ?_⟩; have n0_ := Aside0.mk (Kd.R_below (by (with_reducible repeat (first | apply Kd.R_alloc | apply Kd.R_drewN | apply Kd.R_drew)); exact HO_69.out) hb); have n1_ := Aside0.mk (below_step (by repeat (first | (with_reducible first | exact HB.out | apply below_alloc | apply pw_below_drewN | apply below_drew1) | exact HB.out)) hb); clear HO_69; clear HB; have HO_69 := n0_; have HB := n1_; clear n0_ n1_; (try clear hb); (try clear hb2); (try clear hk); (try clear hi)) | (go_at_call 15; (with_reducible refine (host_Pattern.calls k4 (rdOf ByteArray.empty y226 x71_4) t233 _ ?side1 A31.out).mono ?_); (case side1 => refine Ext.G.step ?_ hG_; repeat (first | (with_reducible first | exact HB.out | apply below_alloc | apply pw_below_drewN | apply below_drew1) | exact HB.out)); rintro e w60 ⟨rfl, hb⟩; have n0_ := Aside0.mk (Kd.R_below (by (with_reducible repeat (first | apply Kd.R_alloc | apply Kd.R_drewN | apply Kd.R_drew)); exact HO_69.out) hb); have n1_ := Aside0.mk (below_step (by repeat (first | (with_reducible first | exact HB.out | apply below_alloc | apply pw_below_drewN | apply below_drew1) | exact HB.out)) hb); clear HO_69; clear HB; have HO_69 := n0_; have HB := n1_; clear n0_ n1_; (try clear hb); (try clear hb2); (try clear hk); (try clear hi)) | (go_at_call 16; (with_reducible refine (certpathref07_Pattern.calls k4 (rdOf ByteArray.empty y226 x71_4) t234 _ ?side1 A32.out).mono ?_); (case side1 => refine Ext.G.step ?_ hG_; repeat (first | (with_reducible first | exact HB.out | apply below_alloc | apply pw_below_drewN | apply below_drew1) | exact HB.out)); rintro e w61 ⟨rfl, hb⟩; have n0_ := Aside0.mk (Kd.R_below (by (with_reducible repeat (first | apply Kd.R_alloc | apply Kd.R_drewN | apply Kd.R_drew)); exact HO_69.out) hb); have n1_ := Aside0.mk (below_step (by repeat (first | (with_reducible first | exact HB.out | apply below_alloc | apply pw_below_drewN | apply below_drew1) | exact HB.out)) hb); clear HO_69; clear HB; have HO_69 := n0_; have HB := n1_; clear n0_ n1_; (try clear hb); (try clear hb2); (try clear hk); (try clear hi)) | (go_at_call 19; (with_reducible refine (host_Mail.calls k4 (rdOf ByteArray.empty y226 x71_4) t235 _ ?side1 A38.out).mono ?_); (case side1 => refine Ext.G.step ?_ hG_; repeat (first | (with_reducible first | exact HB.out | apply below_alloc | apply pw_below_drewN | apply below_drew1) | exact HB.out)); rintro e w62 ⟨rfl, hb⟩; have n0_ := Aside0.mk (Kd.R_below (by (with_reducible repeat (first | apply Kd.R_alloc | apply Kd.R_drewN | apply Kd.R_drew)); exact HO_69.out) hb); have n1_ := Aside0.mk (below_step (by repeat (first | (with_reducible first | exact HB.out | apply below_alloc | apply pw_below_drewN | apply below_drew1) | exact HB.out)) hb); clear HO_69; clear HB; have HO_69 := n0_; have HB := n1_; clear n0_ n1_; (try clear hb); (try clear hb2); (try clear hk); (try clear hi)) | (go_at_call 20; (with_reducible refine (certpathref07_Mail.calls k4 (rdOf ByteArray.empty y226 x71_4) t236 _ ?side1 A39.out).mono ?_); (case side1 => refine Ext.G.step ?_ hG_; repeat (first | (with_reducible first | exact HB.out | apply below_alloc | apply pw_below_drewN | apply below_drew1) | exact HB.out)); rintro e w63 ⟨rfl, hb⟩; have n0_ := Aside0.mk (Kd.R_below (by (with_reducible repeat (first | apply Kd.R_alloc | apply Kd.R_drewN | apply Kd.R_drew)); exact HO_69.out) hb); have n1_ := Aside0.mk (below_step (by repeat (first | (with_reducible first | exact HB.out | apply below_alloc | apply pw_below_drewN | apply below_drew1) | exact HB.out)) hb); clear HO_69; clear HB; have HO_69 := n0_; have HB := n1_; clear n0_ n1_; (try clear hb); (try clear hb2); (try clear hk); (try clear hi)) | (go_at_call 21; (with_reducible refine (host_MailBase.calls k4 (rdOf ByteArray.empty y226 x71_4) t237 _ ?side1 A47.out).mono ?_); (case side1 => refine Ext.G.step ?_ hG_; repeat (first | (with_reducible first | exact HB.out | apply below_alloc | apply pw_below_drewN | apply below_drew1) | exact HB.out)); rintro e w64 ⟨rfl, hb⟩; have n0_ := Aside0.mk (Kd.R_below (by (with_reducible repeat (first | apply Kd.R_alloc | apply Kd.R_drewN | apply Kd.R_drew)); exact HO_69.out) hb); have n1_ := Aside0.mk (below_step (by repeat (first | (with_reducible first | exact HB.out | apply below_alloc | apply pw_below_drewN | apply below_drew1) | exact HB.out)) hb); clear HO_69; clear HB; have HO_69 := n0_; have HB := n1_; clear n0_ n1_; (try clear hb); (try clear hb2); (try clear hk); (try clear hi)) | (go_at_call 22; (with_reducible refine (certpathref07_MailBase.calls k4 (rdOf ByteArray.empty y226 x71_4) t238 _ ?side1 A48.out).mono ?_); (case side1 => refine Ext.G.step ?_ hG_; repeat (first | (with_reducible first | exact HB.out | apply below_alloc | apply pw_below_drewN | apply below_drew1) | exact HB.out)); rintro e w65 ⟨rfl, hb⟩; have n0_ := Aside0.mk (Kd.R_below (by (with_reducible repeat (first | apply Kd.R_alloc | apply Kd.R_drewN | apply Kd.R_drew)); exact HO_69.out) hb); have n1_ := Aside0.mk (below_step (by repeat (first | (with_reducible first | exact HB.out | apply below_alloc | apply pw_below_drewN | apply below_drew1) | exact HB.out)) hb); clear HO_69; clear HB; have HO_69 := n0_; have HB := n1_; clear n0_ n1_; (try clear hb); (try clear hb2); (try clear hk); (try clear hi)))
                                                  go_roundg k4
                                                  case measure => have := HK1.out; have := HK2.out; have := HK3.out; have := HK4.out; omega
                                                  case rel => exact ⟨(wrap64 (x71_4 + 1)), (by first | rfl | (simp; done) | (simp [*]; done)), H', ⟨by have := HK1.out; have := HK2.out; have := HK3.out; have := HK4.out; omega⟩, ⟨by (with_reducible repeat (first | apply Kd.R_alloc | apply Kd.R_drewN | apply Kd.R_drew)); exact HO_69.out⟩, ⟨by repeat (first | (with_reducible first | exact HB.out | apply below_alloc | apply pw_below_drewN | apply below_drew1) | exact HB.out)⟩⟩
                                        · rw [if_neg c25] at H
                                          exact absurd H (by simp)
                                      · rw [if_neg c24] at H
                                        exact absurd H (by simp)
                                    · rw [if_neg c23] at H
                                      have c23b0 : decide (x71_4 < (y226.length : Int)) = false := decide_eq_false c23
                                      clear c23
                                      replace H := Option.bind_eq_some_iff.mp H
                                      obtain ⟨t229, A660, H⟩ := H
                                      replace H : (some t229) = some r := H
                                      have A66 := Aside0.mk A660
                                      clear A660
                                      obtain rfl := Option.some.inj H
                                      go_wp2_with (first | ((with_reducible refine gate_callee (f := 10) rfl ?_); refine goesL_ (some 102) rfl rfl Tryd.func10 (by kernel_rfl) rfl #[] rfl (by (try simp only [List.map_toArray, List.map_cons, List.map_nil]); first | done | rfl | (simp only [List.length_drop, List.length_take]; rfl)) ?_; (with_reducible refine (certpathlaw08_awake.calls k4  t229 _ ?side1 A66.out).mono ?_); (case side1 => refine Ext.G.step ?_ hG_; repeat (first | (with_reducible first | exact HB.out | apply below_alloc | apply pw_below_drewN | apply below_drew1) | exact HB.out)); rintro e w67 ⟨rfl, hb⟩; refine ⟨_, rfl, ?_⟩; have n0_ := Aside0.mk (Kd.R_below (by (with_reducible repeat (first | apply Kd.R_alloc | apply Kd.R_drewN | apply Kd.R_drew)); exact HO_69.out) hb); have n1_ := Aside0.mk (below_step (by repeat (first | (with_reducible first | exact HB.out | apply below_alloc | apply pw_below_drewN | apply below_drew1) | exact HB.out)) hb); clear HO_69; clear HB; have HO_69 := n0_; have HB := n1_; clear n0_ n1_; (try clear hb); (try clear hb2); (try clear hk); (try clear hi)))
                                      go_ret
                                      exact ⟨by first | rfl | (simp [errW_none, errW_some] <;> rfl) | (simp [*, errW_none, errW_some] <;> rfl), by repeat (first | (with_reducible first | exact HB.out | apply below_alloc | apply pw_below_drewN | apply below_drew1) | exact HB.out)⟩
                              · rw [if_neg c19] at H
                                exact absurd H (by simp)
                            · rw [if_neg c18] at H
                              exact absurd H (by simp)
                          · rw [if_neg c17] at H
                            exact absurd H (by simp)
                        · rw [if_neg c16] at H
                          exact absurd H (by simp)
                      · rw [if_neg c15] at H
                        exact absurd H (by simp)
                    · rw [if_neg c14] at H
                      exact absurd H (by simp)

/-- THE ONE PURE STATEMENT of certpathlaw08_HostLong: yours. -/
def certpathlaw08_HostLong.Pure : Prop := ∀ (a0 : Int) (a1 : Int) (a2 : Int), (Lit.int .u8 a0).wf = true → (Lit.int .u8 a1).wf = true → (Lit.int .u8 a2).wf = true → ∃ k, certpathlaw08_HostLong.f k a0 a1 a2 = some true
theorem certpathlaw08_HostLong.walk (P : certpathlaw08_HostLong.Pure) (a0 : Int) (a1 : Int) (a2 : Int) (w : World) (hG_ : Ext.G w) (w0 : (Lit.int .u8 a0).wf = true) (w1 : (Lit.int .u8 a1).wf = true) (w2 : (Lit.int .u8 a2).wf = true) :
    Calls Tryd.prog 4 #[.int .u8 a0, .int .u8 a1, .int .u8 a2] w fun e w' => e = .returned (.bool true) ∧ Below w.heap.size w w' := by
  obtain ⟨k, h⟩ := P a0 a1 a2 w0 w1 w2
  refine (certpathlaw08_HostLong.calls k a0 a1 a2 true w hG_ h).mono ?_
  rintro e w' ⟨rfl, hd⟩
  exact ⟨rfl, hd⟩

end Go.Proofs.YtegmenlonpgnpaaDoor.Q
