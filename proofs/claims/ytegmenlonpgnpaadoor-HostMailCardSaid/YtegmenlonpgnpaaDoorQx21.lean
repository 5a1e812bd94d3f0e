-- Written by a program of this session (wip/prn.py) out of the translation, for the seat YtegmenlonpgnpaaDoor. Not trusted: Lean checks it.
import Derived.Test.YtegmenlonpgnpaaDoorQx0
import Derived.Test.YtegmenlonpgnpaaDoorQx3
import Derived.Test.YtegmenlonpgnpaaDoorQx5
import Derived.Test.YtegmenlonpgnpaaDoorQx8
import Derived.Test.YtegmenlonpgnpaaDoorQx9
import Derived.Test.YtegmenlonpgnpaaDoorQx19
import Derived.Test.YtegmenlonpgnpaaDoorQx20
namespace Go.Proofs.YtegmenlonpgnpaaDoor.Q
open Go.RowKit Go.Proofs.YtegmenlonpgnpaaDoorW.PrintWords Go.Proofs.YtegmenlonpgnpaaDoorW.PrintLast Go.Proofs.YtegmenlonpgnpaaDoorW.PrintMore
attribute [local go_sem] max2_int min2_int max_two min_two max_three min_three max_four min_four   -- for this text's walks alone
set_option linter.unusedVariables false
set_option linter.unusedSimpArgs false

/-! ### certpathlaw08_HostMail: function 5 -/
mutual
def certpathlaw08_HostMail.j0 : Nat → ByteArray → ByteArray → List Int → List Int → Bool → Option (Bool)
  | 0, _, _, _, _, _ => none
  | k + 1, x0, x1, x2, x3, x20 => if x20 = true then ((certpathlaw08_awake.f k).bind fun t261 => (some t261)) else ((certpathlaw08_dns.f k x2).bind fun t262 => ((certpathlaw08_dns.f k x3).bind fun t263 => (if 4 + t262.size ≤ 9223372036854775807 then (if 1 + t263.size ≤ 9223372036854775807 then (if 4 + t263.size ≤ 9223372036854775807 then (if 1 + t262.size ≤ 9223372036854775807 then ((certpathlaw08_pieces.f k x2).bind fun t264 => ((certpathlaw08_pieces.f k x3).bind fun t265 => ((Hand.ref01_Lower.f ((⟨#[97, 110, 110, 64]⟩ : ByteArray) ++ t262)).bind fun t266 => ((some (([(⟨x0, x1⟩ : S29), (⟨(⟨#[97, 110, 110, 64]⟩ : ByteArray) ++ t262, t263⟩ : S29), (⟨(⟨#[97, 110, 110, 64]⟩ : ByteArray) ++ t262, (⟨#[46]⟩ : ByteArray) ++ t263⟩ : S29), (⟨(⟨#[97, 110, 110, 64]⟩ : ByteArray) ++ t262, (⟨#[97, 110, 110, 64]⟩ : ByteArray) ++ t263⟩ : S29), (⟨(⟨#[97, 110, 110, 64]⟩ : ByteArray) ++ t262, (⟨#[65, 110, 110, 64]⟩ : ByteArray) ++ t262⟩ : S29), (⟨t262, t263⟩ : S29), (⟨t262, (⟨#[46]⟩ : ByteArray) ++ t263⟩ : S29), (⟨(⟨#[46]⟩ : ByteArray) ++ t262, (⟨#[46]⟩ : ByteArray) ++ t263⟩ : S29), (⟨(⟨#[46]⟩ : ByteArray) ++ t262, t263⟩ : S29), (⟨t262, (⟨#[97, 110, 110, 64]⟩ : ByteArray) ++ t262⟩ : S29), (⟨t264, t265⟩ : S29), (⟨(⟨#[97, 110, 110, 64]⟩ : ByteArray) ++ t262, t266⟩ : S29)] : List (S29)) : List (S29))).bind fun y267 => (certpathlaw08_HostMail.l0 k y267 (y267.length : Int) 0))))) else (none)) else (none)) else (none)) else (none))))
def certpathlaw08_HostMail.l0 : Nat → List (S29) → Int → Int → Option (Bool)
  | 0, _, _, _ => none
  | k + 1, x79, x80, x81 => if x81 < x80 then (if 0 ≤ x81 then (if x81 < (x79.length : Int) then ((host_MailMatch.f k ((rd_T29 x79 x81).f0) ((rd_T29 x79 x81).f1)).bind fun t273 => ((certpathref07_MailMatch.f k ((rd_T29 x79 x81).f0) ((rd_T29 x79 x81).f1)).bind fun t274 => (if (t273 != t274) = true then (some false) else ((host_MailWithin.f k ((rd_T29 x79 x81).f0) ((rd_T29 x79 x81).f1)).bind fun t275 => ((certpathref07_MailWithin.f k ((rd_T29 x79 x81).f0) ((rd_T29 x79 x81).f1)).bind fun t276 => (if (t275 != t276) = true then (some false) else (certpathlaw08_HostMail.l0 k x79 x80 (wrap64 (x81 + 1))))))))) else (none)) else (none)) else ((certpathlaw08_awake.f k).bind fun t270 => (some t270))
end
def certpathlaw08_HostMail.f (k : Nat) (a0 : ByteArray) (a1 : ByteArray) (l2 : List Int) (l3 : List Int) : Option (Bool) := if (a0.size : Int) > 200 then (certpathlaw08_HostMail.j0 k a0 a1 l2 l3 true) else (certpathlaw08_HostMail.j0 k a0 a1 l2 l3 (decide ((a1.size : Int) > 200)))
theorem certpathlaw08_HostMail.mono_l : ∀ k, (∀ y0 y1 y2 y3 y4, LeO (certpathlaw08_HostMail.j0 k y0 y1 y2 y3 y4) (certpathlaw08_HostMail.j0 (k + 1) y0 y1 y2 y3 y4)) ∧ (∀ y0 y1 y2, LeO (certpathlaw08_HostMail.l0 k y0 y1 y2) (certpathlaw08_HostMail.l0 (k + 1) y0 y1 y2))
  | 0 => ⟨fun _ _ _ _ _ r h => by simp [certpathlaw08_HostMail.j0] at h, fun _ _ _ r h => by simp [certpathlaw08_HostMail.l0] at h⟩
  | k + 1 => by
    obtain ⟨ih0, ih1⟩ := certpathlaw08_HostMail.mono_l k
    refine ⟨?_, ?_⟩
    · intro y0 y1 y2 y3 y4
      unfold certpathlaw08_HostMail.j0
      repeat' first
      | (with_reducible exact ih0 _ _ _ _ _)
      | (with_reducible exact ih1 _ _ _)
      | (with_reducible exact certpathlaw08_awake.mono _)
      | (with_reducible exact certpathlaw08_dns.mono _ _)
      | (with_reducible exact certpathlaw08_pieces.mono _ _)
      | (with_reducible exact certpathref07_MailMatch.mono _ _ _)
      | (with_reducible exact certpathref07_MailWithin.mono _ _ _)
      | (with_reducible exact host_MailMatch.mono _ _ _)
      | (with_reducible exact host_MailWithin.mono _ _ _)
      | (with_reducible exact LeO.refl _)
      | (with_reducible exact LeO.none _)
      | (with_reducible refine LeO.ite ?_ ?_)
      | (with_reducible refine LeO.bind ?_ (fun _ => ?_))
      | exact ih0 _ _ _ _ _
      | exact ih1 _ _ _
      | exact certpathlaw08_awake.mono _
      | exact certpathlaw08_dns.mono _ _
      | exact certpathlaw08_pieces.mono _ _
      | exact certpathref07_MailMatch.mono _ _ _
      | exact certpathref07_MailWithin.mono _ _ _
      | exact host_MailMatch.mono _ _ _
      | exact host_MailWithin.mono _ _ _
      | exact LeO.none _
      | refine LeO.ite ?_ ?_
      | refine LeO.bind ?_ (fun _ => ?_)
    · intro y0 y1 y2
      unfold certpathlaw08_HostMail.l0
      repeat' first
      | (with_reducible exact ih0 _ _ _ _ _)
      | (with_reducible exact ih1 _ _ _)
      | (with_reducible exact certpathlaw08_awake.mono _)
      | (with_reducible exact certpathlaw08_dns.mono _ _)
      | (with_reducible exact certpathlaw08_pieces.mono _ _)
      | (with_reducible exact certpathref07_MailMatch.mono _ _ _)
      | (with_reducible exact certpathref07_MailWithin.mono _ _ _)
      | (with_reducible exact host_MailMatch.mono _ _ _)
      | (with_reducible exact host_MailWithin.mono _ _ _)
      | (with_reducible exact LeO.refl _)
      | (with_reducible exact LeO.none _)
      | (with_reducible refine LeO.ite ?_ ?_)
      | (with_reducible refine LeO.bind ?_ (fun _ => ?_))
      | exact ih0 _ _ _ _ _
      | exact ih1 _ _ _
      | exact certpathlaw08_awake.mono _
      | exact certpathlaw08_dns.mono _ _
      | exact certpathlaw08_pieces.mono _ _
      | exact certpathref07_MailMatch.mono _ _ _
      | exact certpathref07_MailWithin.mono _ _ _
      | exact host_MailMatch.mono _ _ _
      | exact host_MailWithin.mono _ _ _
      | exact LeO.none _
      | refine LeO.ite ?_ ?_
      | refine LeO.bind ?_ (fun _ => ?_)
theorem certpathlaw08_HostMail.mono : ∀ a0 a1 a2 a3 k, LeO (certpathlaw08_HostMail.f k a0 a1 a2 a3) (certpathlaw08_HostMail.f (k + 1) a0 a1 a2 a3) := by
  intro a0 a1 a2 a3 k
  obtain ⟨ih0, ih1⟩ := certpathlaw08_HostMail.mono_l k
  unfold certpathlaw08_HostMail.f
  repeat' first
      | (with_reducible exact ih0 _ _ _ _ _)
      | (with_reducible exact ih1 _ _ _)
      | (with_reducible exact certpathlaw08_awake.mono _)
      | (with_reducible exact certpathlaw08_dns.mono _ _)
      | (with_reducible exact certpathlaw08_pieces.mono _ _)
      | (with_reducible exact certpathref07_MailMatch.mono _ _ _)
      | (with_reducible exact certpathref07_MailWithin.mono _ _ _)
      | (with_reducible exact host_MailMatch.mono _ _ _)
      | (with_reducible exact host_MailWithin.mono _ _ _)
      | (with_reducible exact LeO.refl _)
      | (with_reducible exact LeO.none _)
      | (with_reducible refine LeO.ite ?_ ?_)
      | (with_reducible refine LeO.bind ?_ (fun _ => ?_))
      | exact ih0 _ _ _ _ _
      | exact ih1 _ _ _
      | exact certpathlaw08_awake.mono _
      | exact certpathlaw08_dns.mono _ _
      | exact certpathlaw08_pieces.mono _ _
      | exact certpathref07_MailMatch.mono _ _ _
      | exact certpathref07_MailWithin.mono _ _ _
      | exact host_MailMatch.mono _ _ _
      | exact host_MailWithin.mono _ _ _
      | exact LeO.none _
      | refine LeO.ite ?_ ?_
      | refine LeO.bind ?_ (fun _ => ?_)
def certpathlaw08_HostMail.T7 : Bool × List (List Nat × List Nat) := (true, [([], []), ([0], [0]), ([], []), ([2], [2]), ([1, 3], [1, 3]), ([], []), ([5], [5]), ([], []), ([7], [7]), ([6, 8, 4], [6, 8]), ([4, 9], [4, 9]), ([10, 9], [10]), ([11], [11]), ([12, 11], [11, 12]), ([11], [11]), ([14, 11], [11, 14]), ([13, 15, 11, 11], [11, 13, 15]), ([11], [11]), ([17, 11], [11, 17]), ([11], [11]), ([19, 11], [11, 19]), ([18, 20, 16, 11], [11, 18, 20]), ([16, 21, 11], [11, 16, 21]), ([11, 22], [11, 22])])
def certpathlaw08_HostMail.B7 : List Nat := [0, 1, 0, 4, 15, 0, 32, 0, 128, 511, 1023, 2047, 4095, 8191, 4095, 20479, 65535, 4095, 135167, 4095, 528383, 2097151, 4194303, 8388607]
theorem certpathlaw08_HostMail.tab7 : rtab .any (opsOf Tryd.f5 7) = certpathlaw08_HostMail.T7 := by kernel_rfl
theorem certpathlaw08_HostMail.bits7 : waitsOk certpathlaw08_HostMail.T7.2 certpathlaw08_HostMail.B7 = true := by kernel_rfl
set_option maxHeartbeats 8000000 in
set_option maxRecDepth 100000 in
theorem certpathlaw08_HostMail.calls (k : Nat) (a0 : ByteArray) (a1 : ByteArray) (A2 : Option Addr) (c2 : Nat) (l2 : List Int) (A3 : Option Addr) (c3 : Nat) (l3 : List Int) (r : Bool) (w : World) (hG_ : Ext.G w) (hr2 : Kd.C (Kd.int .u8) w A2 l2.length l2) (hc2 : l2.length ≤ c2) (hr3 : Kd.C (Kd.int .u8) w A3 l3.length l3) (hc3 : l3.length ≤ c3) (h : certpathlaw08_HostMail.f k a0 a1 l2 l3 = some r) :
    Calls Tryd.prog 5 #[.string a0, .string a1, .slice A2 l2.length c2, .slice A3 l3.length c3] w fun e w' => e = .returned (.bool r) ∧ Below w.heap.size w w' := by
  have hu29 := Tryd.underlying29
  have HR2 := Aside0.mk hr2
  have HC2 := Aside0.mk hc2
  clear hr2 hc2
  have HR3 := Aside0.mk hr3
  have HC3 := Aside0.mk hc3
  clear hr3 hc3
  have HB := Aside0.mk (Below.refl w.heap.size w)
  have H : (if (a0.size : Int) > 200 then (certpathlaw08_HostMail.j0 k a0 a1 l2 l3 true) else (certpathlaw08_HostMail.j0 k a0 a1 l2 l3 (decide ((a1.size : Int) > 200)))) = some r := h
  clear h
  have HC5 := Aside0.mk H
  clear H
  go_enter Tryd.func5, Tryd.ntmps5
  go_upto_region 1 with (fail)
  go_cut [20] (fun v20 wc => ∃ (kq : Nat) (x20_4 : Bool), v20 = .bool x20_4 ∧ Aside0 (certpathlaw08_HostMail.j0 kq a0 a1 l2 l3 x20_4 = some r) ∧ Aside0 (kq ≤ k) ∧ Aside0 (Below w.heap.size w wc))
  case first =>
    have H := HC5.out
    clear HC5
    by_cases c6 : (a0.size : Int) > 200
    · rw [if_pos c6] at H
      have c6b0 : decide (200 < (a0.size : Int)) = true := decide_eq_true c6
      have c6b1 : decide (200 < a0.size) = true := decide_eq_true (by omega)
      clear c6
      (first | rw [c6b0] | (simp only [i64_w, i32_w]; rw [c6b0]) | skip)
      have H' := Aside0.mk H
      clear H
      go_wp2
      go_meet
      case rel => exact ⟨_, (true), (by first | rfl | (simp; done) | (simp [*]; done)), H', ⟨by first | omega | exact Nat.le_refl _⟩, ⟨by repeat (first | (with_reducible first | exact HB.out | apply below_alloc | apply pw_below_drewN | apply below_drew1) | exact HB.out)⟩⟩
    · rw [if_neg c6] at H
      have c6b0 : decide (200 < (a0.size : Int)) = false := decide_eq_false c6
      have c6b1 : decide (200 < a0.size) = false := decide_eq_false (by omega)
      clear c6
      (first | rw [c6b0] | (simp only [i64_w, i32_w]; rw [c6b0]) | skip)
      have H' := Aside0.mk H
      clear H
      go_wp2
      go_meet
      case rel => exact ⟨_, (decide ((a1.size : Int) > 200)), (by first | rfl | (simp; done) | (simp [*]; done)), H', ⟨by first | omega | exact Nat.le_refl _⟩, ⟨by repeat (first | (with_reducible first | exact HB.out | apply below_alloc | apply pw_below_drewN | apply below_drew1) | exact HB.out)⟩⟩
  case rest =>
    clear HC5
    try clear c2
    try clear p2
    try clear c3
    try clear c5
    try clear c6
    try clear c6b0
    try clear c6b1
    obtain ⟨kq, x20_4, rfl, HA, HJ4, HB⟩ := hcut
    cases kq with
    | zero => exact absurd HA.out (by simp [certpathlaw08_HostMail.j0])
    | succ kj4 =>
      have H := HA.out
      clear HA
      simp only [certpathlaw08_HostMail.j0] at H
      by_cases c7 : x20_4 = true
      · subst c7
        have H1 : ((certpathlaw08_awake.f kj4).bind fun t261 => (some t261)) = some r := by rw [if_pos rfl] at H; exact H
        clear H
        have H := H1
        clear H1
        replace H := Option.bind_eq_some_iff.mp H
        obtain ⟨t261, A80, H⟩ := H
        replace H : (some t261) = some r := H
        have A8 := Aside0.mk A80
        clear A80
        obtain rfl := Option.some.inj H
        go_wp2_with (first | ((with_reducible refine gate_callee (f := 10) rfl ?_); refine goesL_ (some 21) rfl rfl Tryd.func10 (by kernel_rfl) rfl #[] rfl (by (try simp only [List.map_toArray, List.map_cons, List.map_nil]); first | done | rfl | (simp only [List.length_drop, List.length_take]; rfl)) ?_; (with_reducible refine (certpathlaw08_awake.calls kj4  t261 _ ?side1 A8.out).mono ?_); (case side1 => refine Ext.G.step ?_ hG_; repeat (first | (with_reducible first | exact HB.out | apply below_alloc | apply pw_below_drewN | apply below_drew1) | exact HB.out)); rintro e w9 ⟨rfl, hb⟩; refine ⟨_, rfl, ?_⟩; have n0_ := Aside0.mk (below_step (by repeat (first | (with_reducible first | exact HB.out | apply below_alloc | apply pw_below_drewN | apply below_drew1) | exact HB.out)) hb); clear HB; have HB := n0_; clear n0_; (try clear hb); (try clear hb2); (try clear hk); (try clear hi)))
        go_ret
        exact ⟨by first | rfl | (simp [errW_none, errW_some] <;> rfl) | (simp [*, errW_none, errW_some] <;> rfl), by repeat (first | (with_reducible first | exact HB.out | apply below_alloc | apply pw_below_drewN | apply below_drew1) | exact HB.out)⟩
      · replace c7 := Bool.eq_false_iff.mpr c7
        subst c7
        have H1 : ((certpathlaw08_dns.f kj4 l2).bind fun t262 => ((certpathlaw08_dns.f kj4 l3).bind fun t263 => (if 4 + t262.size ≤ 9223372036854775807 then (if 1 + t263.size ≤ 9223372036854775807 then (if 4 + t263.size ≤ 9223372036854775807 then (if 1 + t262.size ≤ 9223372036854775807 then ((certpathlaw08_pieces.f kj4 l2).bind fun t264 => ((certpathlaw08_pieces.f kj4 l3).bind fun t265 => ((Hand.ref01_Lower.f ((⟨#[97, 110, 110, 64]⟩ : ByteArray) ++ t262)).bind fun t266 => ((some (([(⟨a0, a1⟩ : S29), (⟨(⟨#[97, 110, 110, 64]⟩ : ByteArray) ++ t262, t263⟩ : S29), (⟨(⟨#[97, 110, 110, 64]⟩ : ByteArray) ++ t262, (⟨#[46]⟩ : ByteArray) ++ t263⟩ : S29), (⟨(⟨#[97, 110, 110, 64]⟩ : ByteArray) ++ t262, (⟨#[97, 110, 110, 64]⟩ : ByteArray) ++ t263⟩ : S29), (⟨(⟨#[97, 110, 110, 64]⟩ : ByteArray) ++ t262, (⟨#[65, 110, 110, 64]⟩ : ByteArray) ++ t262⟩ : S29), (⟨t262, t263⟩ : S29), (⟨t262, (⟨#[46]⟩ : ByteArray) ++ t263⟩ : S29), (⟨(⟨#[46]⟩ : ByteArray) ++ t262, (⟨#[46]⟩ : ByteArray) ++ t263⟩ : S29), (⟨(⟨#[46]⟩ : ByteArray) ++ t262, t263⟩ : S29), (⟨t262, (⟨#[97, 110, 110, 64]⟩ : ByteArray) ++ t262⟩ : S29), (⟨t264, t265⟩ : S29), (⟨(⟨#[97, 110, 110, 64]⟩ : ByteArray) ++ t262, t266⟩ : S29)] : List (S29)) : List (S29))).bind fun y267 => (certpathlaw08_HostMail.l0 kj4 y267 (y267.length : Int) 0))))) else (none)) else (none)) else (none)) else (none)))) = some r := by rw [if_neg (show ¬ (false = true) by decide)] at H; exact H
        clear H
        have H := H1
        clear H1
        replace H := Option.bind_eq_some_iff.mp H
        obtain ⟨t262, A100, H⟩ := H
        replace H : ((certpathlaw08_dns.f kj4 l3).bind fun t263 => (if 4 + t262.size ≤ 9223372036854775807 then (if 1 + t263.size ≤ 9223372036854775807 then (if 4 + t263.size ≤ 9223372036854775807 then (if 1 + t262.size ≤ 9223372036854775807 then ((certpathlaw08_pieces.f kj4 l2).bind fun t264 => ((certpathlaw08_pieces.f kj4 l3).bind fun t265 => ((Hand.ref01_Lower.f ((⟨#[97, 110, 110, 64]⟩ : ByteArray) ++ t262)).bind fun t266 => ((some (([(⟨a0, a1⟩ : S29), (⟨(⟨#[97, 110, 110, 64]⟩ : ByteArray) ++ t262, t263⟩ : S29), (⟨(⟨#[97, 110, 110, 64]⟩ : ByteArray) ++ t262, (⟨#[46]⟩ : ByteArray) ++ t263⟩ : S29), (⟨(⟨#[97, 110, 110, 64]⟩ : ByteArray) ++ t262, (⟨#[97, 110, 110, 64]⟩ : ByteArray) ++ t263⟩ : S29), (⟨(⟨#[97, 110, 110, 64]⟩ : ByteArray) ++ t262, (⟨#[65, 110, 110, 64]⟩ : ByteArray) ++ t262⟩ : S29), (⟨t262, t263⟩ : S29), (⟨t262, (⟨#[46]⟩ : ByteArray) ++ t263⟩ : S29), (⟨(⟨#[46]⟩ : ByteArray) ++ t262, (⟨#[46]⟩ : ByteArray) ++ t263⟩ : S29), (⟨(⟨#[46]⟩ : ByteArray) ++ t262, t263⟩ : S29), (⟨t262, (⟨#[97, 110, 110, 64]⟩ : ByteArray) ++ t262⟩ : S29), (⟨t264, t265⟩ : S29), (⟨(⟨#[97, 110, 110, 64]⟩ : ByteArray) ++ t262, t266⟩ : S29)] : List (S29)) : List (S29))).bind fun y267 => (certpathlaw08_HostMail.l0 kj4 y267 (y267.length : Int) 0))))) else (none)) else (none)) else (none)) else (none))) = some r := H
        have A10 := Aside0.mk A100
        clear A100
        replace H := Option.bind_eq_some_iff.mp H
        obtain ⟨t263, A110, H⟩ := H
        replace H : (if 4 + t262.size ≤ 9223372036854775807 then (if 1 + t263.size ≤ 9223372036854775807 then (if 4 + t263.size ≤ 9223372036854775807 then (if 1 + t262.size ≤ 9223372036854775807 then ((certpathlaw08_pieces.f kj4 l2).bind fun t264 => ((certpathlaw08_pieces.f kj4 l3).bind fun t265 => ((Hand.ref01_Lower.f ((⟨#[97, 110, 110, 64]⟩ : ByteArray) ++ t262)).bind fun t266 => ((some (([(⟨a0, a1⟩ : S29), (⟨(⟨#[97, 110, 110, 64]⟩ : ByteArray) ++ t262, t263⟩ : S29), (⟨(⟨#[97, 110, 110, 64]⟩ : ByteArray) ++ t262, (⟨#[46]⟩ : ByteArray) ++ t263⟩ : S29), (⟨(⟨#[97, 110, 110, 64]⟩ : ByteArray) ++ t262, (⟨#[97, 110, 110, 64]⟩ : ByteArray) ++ t263⟩ : S29), (⟨(⟨#[97, 110, 110, 64]⟩ : ByteArray) ++ t262, (⟨#[65, 110, 110, 64]⟩ : ByteArray) ++ t262⟩ : S29), (⟨t262, t263⟩ : S29), (⟨t262, (⟨#[46]⟩ : ByteArray) ++ t263⟩ : S29), (⟨(⟨#[46]⟩ : ByteArray) ++ t262, (⟨#[46]⟩ : ByteArray) ++ t263⟩ : S29), (⟨(⟨#[46]⟩ : ByteArray) ++ t262, t263⟩ : S29), (⟨t262, (⟨#[97, 110, 110, 64]⟩ : ByteArray) ++ t262⟩ : S29), (⟨t264, t265⟩ : S29), (⟨(⟨#[97, 110, 110, 64]⟩ : ByteArray) ++ t262, t266⟩ : S29)] : List (S29)) : List (S29))).bind fun y267 => (certpathlaw08_HostMail.l0 kj4 y267 (y267.length : Int) 0))))) else (none)) else (none)) else (none)) else (none)) = some r := H
        have A11 := Aside0.mk A110
        clear A110
        by_cases c12 : 4 + t262.size ≤ 9223372036854775807
        · rw [if_pos c12] at H
          have c12b0 := eq_true c12
          have c12b1 : decide (4 + t262.size ≤ 9223372036854775807) = true := decide_eq_true c12
          try have c12b2 : (9223372036854775807 < 4 + t262.size) = False := eq_false (Nat.not_lt.2 c12)
          by_cases c13 : 1 + t263.size ≤ 9223372036854775807
          · rw [if_pos c13] at H
            have c13b0 := eq_true c13
            have c13b1 : decide (1 + t263.size ≤ 9223372036854775807) = true := decide_eq_true c13
            try have c13b2 : (9223372036854775807 < 1 + t263.size) = False := eq_false (Nat.not_lt.2 c13)
            by_cases c14 : 4 + t263.size ≤ 9223372036854775807
            · rw [if_pos c14] at H
              have c14b0 := eq_true c14
              have c14b1 : decide (4 + t263.size ≤ 9223372036854775807) = true := decide_eq_true c14
              try have c14b2 : (9223372036854775807 < 4 + t263.size) = False := eq_false (Nat.not_lt.2 c14)
              by_cases c15 : 1 + t262.size ≤ 9223372036854775807
              · rw [if_pos c15] at H
                have c15b0 := eq_true c15
                have c15b1 : decide (1 + t262.size ≤ 9223372036854775807) = true := decide_eq_true c15
                try have c15b2 : (9223372036854775807 < 1 + t262.size) = False := eq_false (Nat.not_lt.2 c15)
                replace H := Option.bind_eq_some_iff.mp H
                obtain ⟨t264, A160, H⟩ := H
                replace H : ((certpathlaw08_pieces.f kj4 l3).bind fun t265 => ((Hand.ref01_Lower.f ((⟨#[97, 110, 110, 64]⟩ : ByteArray) ++ t262)).bind fun t266 => ((some (([(⟨a0, a1⟩ : S29), (⟨(⟨#[97, 110, 110, 64]⟩ : ByteArray) ++ t262, t263⟩ : S29), (⟨(⟨#[97, 110, 110, 64]⟩ : ByteArray) ++ t262, (⟨#[46]⟩ : ByteArray) ++ t263⟩ : S29), (⟨(⟨#[97, 110, 110, 64]⟩ : ByteArray) ++ t262, (⟨#[97, 110, 110, 64]⟩ : ByteArray) ++ t263⟩ : S29), (⟨(⟨#[97, 110, 110, 64]⟩ : ByteArray) ++ t262, (⟨#[65, 110, 110, 64]⟩ : ByteArray) ++ t262⟩ : S29), (⟨t262, t263⟩ : S29), (⟨t262, (⟨#[46]⟩ : ByteArray) ++ t263⟩ : S29), (⟨(⟨#[46]⟩ : ByteArray) ++ t262, (⟨#[46]⟩ : ByteArray) ++ t263⟩ : S29), (⟨(⟨#[46]⟩ : ByteArray) ++ t262, t263⟩ : S29), (⟨t262, (⟨#[97, 110, 110, 64]⟩ : ByteArray) ++ t262⟩ : S29), (⟨t264, t265⟩ : S29), (⟨(⟨#[97, 110, 110, 64]⟩ : ByteArray) ++ t262, t266⟩ : S29)] : List (S29)) : List (S29))).bind fun y267 => (certpathlaw08_HostMail.l0 kj4 y267 (y267.length : Int) 0)))) = some r := H
                have A16 := Aside0.mk A160
                clear A160
                replace H := Option.bind_eq_some_iff.mp H
                obtain ⟨t265, A170, H⟩ := H
                replace H : ((Hand.ref01_Lower.f ((⟨#[97, 110, 110, 64]⟩ : ByteArray) ++ t262)).bind fun t266 => ((some (([(⟨a0, a1⟩ : S29), (⟨(⟨#[97, 110, 110, 64]⟩ : ByteArray) ++ t262, t263⟩ : S29), (⟨(⟨#[97, 110, 110, 64]⟩ : ByteArray) ++ t262, (⟨#[46]⟩ : ByteArray) ++ t263⟩ : S29), (⟨(⟨#[97, 110, 110, 64]⟩ : ByteArray) ++ t262, (⟨#[97, 110, 110, 64]⟩ : ByteArray) ++ t263⟩ : S29), (⟨(⟨#[97, 110, 110, 64]⟩ : ByteArray) ++ t262, (⟨#[65, 110, 110, 64]⟩ : ByteArray) ++ t262⟩ : S29), (⟨t262, t263⟩ : S29), (⟨t262, (⟨#[46]⟩ : ByteArray) ++ t263⟩ : S29), (⟨(⟨#[46]⟩ : ByteArray) ++ t262, (⟨#[46]⟩ : ByteArray) ++ t263⟩ : S29), (⟨(⟨#[46]⟩ : ByteArray) ++ t262, t263⟩ : S29), (⟨t262, (⟨#[97, 110, 110, 64]⟩ : ByteArray) ++ t262⟩ : S29), (⟨t264, t265⟩ : S29), (⟨(⟨#[97, 110, 110, 64]⟩ : ByteArray) ++ t262, t266⟩ : S29)] : List (S29)) : List (S29))).bind fun y267 => (certpathlaw08_HostMail.l0 kj4 y267 (y267.length : Int) 0))) = some r := H
                have A17 := Aside0.mk A170
                clear A170
                replace H := Option.bind_eq_some_iff.mp H
                obtain ⟨t266, A180, H⟩ := H
                replace H : ((some (([(⟨a0, a1⟩ : S29), (⟨(⟨#[97, 110, 110, 64]⟩ : ByteArray) ++ t262, t263⟩ : S29), (⟨(⟨#[97, 110, 110, 64]⟩ : ByteArray) ++ t262, (⟨#[46]⟩ : ByteArray) ++ t263⟩ : S29), (⟨(⟨#[97, 110, 110, 64]⟩ : ByteArray) ++ t262, (⟨#[97, 110, 110, 64]⟩ : ByteArray) ++ t263⟩ : S29), (⟨(⟨#[97, 110, 110, 64]⟩ : ByteArray) ++ t262, (⟨#[65, 110, 110, 64]⟩ : ByteArray) ++ t262⟩ : S29), (⟨t262, t263⟩ : S29), (⟨t262, (⟨#[46]⟩ : ByteArray) ++ t263⟩ : S29), (⟨(⟨#[46]⟩ : ByteArray) ++ t262, (⟨#[46]⟩ : ByteArray) ++ t263⟩ : S29), (⟨(⟨#[46]⟩ : ByteArray) ++ t262, t263⟩ : S29), (⟨t262, (⟨#[97, 110, 110, 64]⟩ : ByteArray) ++ t262⟩ : S29), (⟨t264, t265⟩ : S29), (⟨(⟨#[97, 110, 110, 64]⟩ : ByteArray) ++ t262, t266⟩ : S29)] : List (S29)) : List (S29))).bind fun y267 => (certpathlaw08_HostMail.l0 kj4 y267 (y267.length : Int) 0)) = some r := H
                have A18 := Aside0.mk A180
                clear A180
                obtain ⟨y267, hy267⟩ : ∃ y_ : List (S29), y_ = (([(⟨a0, a1⟩ : S29), (⟨(⟨#[97, 110, 110, 64]⟩ : ByteArray) ++ t262, t263⟩ : S29), (⟨(⟨#[97, 110, 110, 64]⟩ : ByteArray) ++ t262, (⟨#[46]⟩ : ByteArray) ++ t263⟩ : S29), (⟨(⟨#[97, 110, 110, 64]⟩ : ByteArray) ++ t262, (⟨#[97, 110, 110, 64]⟩ : ByteArray) ++ t263⟩ : S29), (⟨(⟨#[97, 110, 110, 64]⟩ : ByteArray) ++ t262, (⟨#[65, 110, 110, 64]⟩ : ByteArray) ++ t262⟩ : S29), (⟨t262, t263⟩ : S29), (⟨t262, (⟨#[46]⟩ : ByteArray) ++ t263⟩ : S29), (⟨(⟨#[46]⟩ : ByteArray) ++ t262, (⟨#[46]⟩ : ByteArray) ++ t263⟩ : S29), (⟨(⟨#[46]⟩ : ByteArray) ++ t262, t263⟩ : S29), (⟨t262, (⟨#[97, 110, 110, 64]⟩ : ByteArray) ++ t262⟩ : S29), (⟨t264, t265⟩ : S29), (⟨(⟨#[97, 110, 110, 64]⟩ : ByteArray) ++ t262, t266⟩ : S29)] : List (S29))) := ⟨_, rfl⟩
                replace H : (certpathlaw08_HostMail.l0 kj4 y267 (y267.length : Int) 0) = some r := by first | (rw [hy267]; with_reducible exact H) | (have H2_ := (Option.bind_some _ _).symm.trans H; rw [hy267]; with_reducible exact H2_) | (have H2_ := (Option.bind_some _ _).symm.trans H; with_reducible exact H2_) | with_reducible exact H | (rw [hy267]; exact H) | exact H
                have Ny267 := Aside0.mk hy267
                clear hy267
                have H' := Aside0.mk H
                clear H
                go_wp2_with (first | ((with_reducible refine gate_callee (f := 12) rfl ?_); refine goesL_ (some 23) rfl rfl Tryd.func12 (by kernel_rfl) rfl #[.slice A2 l2.length c2] rfl (by (try simp only [List.map_toArray, List.map_cons, List.map_nil]); first | done | rfl | (simp only [List.length_drop, List.length_take]; rfl)) ?_; (with_reducible refine (certpathlaw08_dns.calls kj4 _ _ l2 t262 _ ?side1 ?side2 ?side3 A10.out).mono ?_); (case side1 => refine Ext.G.step ?_ hG_; repeat (first | (with_reducible first | exact HB.out | apply below_alloc | apply pw_below_drewN | apply below_drew1) | exact HB.out)); (case side2 => repeat (first | exact (Kd.C_below HR2.out HB.out) | (with_reducible refine Kd.C_alloc ?_ _) | (with_reducible refine Kd.C_drewN ?_ _) | (with_reducible refine Kd.C_drew ?_))); (case side3 => exact HC2.out); rintro e w19 ⟨rfl, hb⟩; refine ⟨_, rfl, ?_⟩; have n0_ := Aside0.mk (below_step (by repeat (first | (with_reducible first | exact HB.out | apply below_alloc | apply pw_below_drewN | apply below_drew1) | exact HB.out)) hb); clear HB; have HB := n0_; clear n0_; (try clear hb); (try clear hb2); (try clear hk); (try clear hi)) | ((with_reducible refine gate_callee (f := 12) rfl ?_); refine goesL_ (some 25) rfl rfl Tryd.func12 (by kernel_rfl) rfl #[.slice A3 l3.length c3] rfl (by (try simp only [List.map_toArray, List.map_cons, List.map_nil]); first | done | rfl | (simp only [List.length_drop, List.length_take]; rfl)) ?_; (with_reducible refine (certpathlaw08_dns.calls kj4 _ _ l3 t263 _ ?side1 ?side2 ?side3 A11.out).mono ?_); (case side1 => refine Ext.G.step ?_ hG_; repeat (first | (with_reducible first | exact HB.out | apply below_alloc | apply pw_below_drewN | apply below_drew1) | exact HB.out)); (case side2 => repeat (first | exact (Kd.C_below HR3.out HB.out) | (with_reducible refine Kd.C_alloc ?_ _) | (with_reducible refine Kd.C_drewN ?_ _) | (with_reducible refine Kd.C_drew ?_))); (case side3 => exact HC3.out); rintro e w20 ⟨rfl, hb⟩; refine ⟨_, rfl, ?_⟩; have n0_ := Aside0.mk (below_step (by repeat (first | (with_reducible first | exact HB.out | apply below_alloc | apply pw_below_drewN | apply below_drew1) | exact HB.out)) hb); clear HB; have HB := n0_; clear n0_; (try clear hb); (try clear hb2); (try clear hk); (try clear hi)) | ((with_reducible refine gate_callee (f := 11) rfl ?_); refine goesL_ (some 69) rfl rfl Tryd.func11 (by kernel_rfl) rfl #[.slice A2 l2.length c2] rfl (by (try simp only [List.map_toArray, List.map_cons, List.map_nil]); first | done | rfl | (simp only [List.length_drop, List.length_take]; rfl)) ?_; (with_reducible refine (certpathlaw08_pieces.calls kj4 _ _ l2 t264 _ ?side1 ?side2 ?side3 A16.out).mono ?_); (case side1 => refine Ext.G.step ?_ hG_; repeat (first | (with_reducible first | exact HB.out | apply below_alloc | apply pw_below_drewN | apply below_drew1) | exact HB.out)); (case side2 => repeat (first | exact (Kd.C_below HR2.out HB.out) | (with_reducible refine Kd.C_alloc ?_ _) | (with_reducible refine Kd.C_drewN ?_ _) | (with_reducible refine Kd.C_drew ?_))); (case side3 => exact HC2.out); rintro e w21 ⟨rfl, hb⟩; refine ⟨_, rfl, ?_⟩; have n0_ := Aside0.mk (below_step (by repeat (first | (with_reducible first | exact HB.out | apply below_alloc | apply pw_below_drewN | apply below_drew1) | exact HB.out)) hb); clear HB; have HB := n0_; clear n0_; (try clear hb); (try clear hb2); (try clear hk); (try clear hi)) | ((with_reducible refine gate_callee (f := 11) rfl ?_); refine goesL_ (some 71) rfl rfl Tryd.func11 (by kernel_rfl) rfl #[.slice A3 l3.length c3] rfl (by (try simp only [List.map_toArray, List.map_cons, List.map_nil]); first | done | rfl | (simp only [List.length_drop, List.length_take]; rfl)) ?_; (with_reducible refine (certpathlaw08_pieces.calls kj4 _ _ l3 t265 _ ?side1 ?side2 ?side3 A17.out).mono ?_); (case side1 => refine Ext.G.step ?_ hG_; repeat (first | (with_reducible first | exact HB.out | apply below_alloc | apply pw_below_drewN | apply below_drew1) | exact HB.out)); (case side2 => repeat (first | exact (Kd.C_below HR3.out HB.out) | (with_reducible refine Kd.C_alloc ?_ _) | (with_reducible refine Kd.C_drewN ?_ _) | (with_reducible refine Kd.C_drew ?_))); (case side3 => exact HC3.out); rintro e w22 ⟨rfl, hb⟩; refine ⟨_, rfl, ?_⟩; have n0_ := Aside0.mk (below_step (by repeat (first | (with_reducible first | exact HB.out | apply below_alloc | apply pw_below_drewN | apply below_drew1) | exact HB.out)) hb); clear HB; have HB := n0_; clear n0_; (try clear hb); (try clear hb2); (try clear hk); (try clear hi)) | ((with_reducible refine gate_callee (f := 23) rfl ?_); refine goesL_ (some 77) rfl rfl Tryd.func23 (by kernel_rfl) rfl #[.string ((⟨#[97, 110, 110, 64]⟩ : ByteArray) ++ t262)] rfl (by (try simp only [List.map_toArray, List.map_cons, List.map_nil]); first | done | rfl | (simp only [List.length_drop, List.length_take]; rfl)) ?_; (with_reducible refine (Hand.ref01_Lower.calls ((⟨#[97, 110, 110, 64]⟩ : ByteArray) ++ t262) t266 _ ?side1 A18.out).mono ?_); (case side1 => refine Ext.G.step ?_ hG_; repeat (first | (with_reducible first | exact HB.out | apply below_alloc | apply pw_below_drewN | apply below_drew1) | exact HB.out)); rintro e w23 ⟨rfl, hb⟩; refine ⟨_, rfl, ?_⟩; have n0_ := Aside0.mk (below_step (by repeat (first | (with_reducible first | exact HB.out | apply below_alloc | apply pw_below_drewN | apply below_drew1) | exact HB.out)) hb); clear HB; have HB := n0_; clear n0_; (try clear hb); (try clear hb2); (try clear hk); (try clear hi)) | ((with_reducible refine gate_dst (N := 79) rfl ?_); (try (refine gate_guard (by rfl) ?_; dsimp only)); refine Kd.R_lit k29 _ 29 ?hg (N := 79) ?hd (xs := ([(⟨a0, a1⟩ : S29), (⟨(⟨#[97, 110, 110, 64]⟩ : ByteArray) ++ t262, t263⟩ : S29), (⟨(⟨#[97, 110, 110, 64]⟩ : ByteArray) ++ t262, (⟨#[46]⟩ : ByteArray) ++ t263⟩ : S29), (⟨(⟨#[97, 110, 110, 64]⟩ : ByteArray) ++ t262, (⟨#[97, 110, 110, 64]⟩ : ByteArray) ++ t263⟩ : S29), (⟨(⟨#[97, 110, 110, 64]⟩ : ByteArray) ++ t262, (⟨#[65, 110, 110, 64]⟩ : ByteArray) ++ t262⟩ : S29), (⟨t262, t263⟩ : S29), (⟨t262, (⟨#[46]⟩ : ByteArray) ++ t263⟩ : S29), (⟨(⟨#[46]⟩ : ByteArray) ++ t262, (⟨#[46]⟩ : ByteArray) ++ t263⟩ : S29), (⟨(⟨#[46]⟩ : ByteArray) ++ t262, t263⟩ : S29), (⟨t262, (⟨#[97, 110, 110, 64]⟩ : ByteArray) ++ t262⟩ : S29), (⟨t264, t265⟩ : S29), (⟨(⟨#[97, 110, 110, 64]⟩ : ByteArray) ++ t262, t266⟩ : S29)] : List (S29))) (inner := [.string a0, .string a1, .string ((⟨#[97, 110, 110, 64]⟩ : ByteArray) ++ t262), .string t263, .string ((⟨#[97, 110, 110, 64]⟩ : ByteArray) ++ t262), .string ((⟨#[46]⟩ : ByteArray) ++ t263), .string ((⟨#[97, 110, 110, 64]⟩ : ByteArray) ++ t262), .string ((⟨#[97, 110, 110, 64]⟩ : ByteArray) ++ t263), .string ((⟨#[97, 110, 110, 64]⟩ : ByteArray) ++ t262), .string ((⟨#[65, 110, 110, 64]⟩ : ByteArray) ++ t262), .string t262, .string t263, .string t262, .string ((⟨#[46]⟩ : ByteArray) ++ t263), .string ((⟨#[46]⟩ : ByteArray) ++ t262), .string ((⟨#[46]⟩ : ByteArray) ++ t263), .string ((⟨#[46]⟩ : ByteArray) ++ t262), .string t263, .string t262, .string ((⟨#[97, 110, 110, 64]⟩ : ByteArray) ++ t262), .string t264, .string t265, .string ((⟨#[97, 110, 110, 64]⟩ : ByteArray) ++ t262), .string t266]) (ok := fun _ => True) (okp := fun _ => True) ?hr ?hp (fun _ hk => hk) trivial (Below.refl _ _) (Nat.le_refl _) (by simp) ?_; (case hd => rfl); (case hg => rfl); (case hr => first | (go_simp; done) | (go_simp; rfl)); (case hp => exact (Reps.c2 (show Kd.M k29 _ _ _ (⟨a0, a1⟩ : S29) [.string a0, .string a1] from (k29_mkM _ _ _ (⟨a0, a1⟩ : S29) )) (Reps.c2 (show Kd.M k29 _ _ _ (⟨(⟨#[97, 110, 110, 64]⟩ : ByteArray) ++ t262, t263⟩ : S29) [.string ((⟨#[97, 110, 110, 64]⟩ : ByteArray) ++ t262), .string t263] from (k29_mkM _ _ _ (⟨(⟨#[97, 110, 110, 64]⟩ : ByteArray) ++ t262, t263⟩ : S29) )) (Reps.c2 (show Kd.M k29 _ _ _ (⟨(⟨#[97, 110, 110, 64]⟩ : ByteArray) ++ t262, (⟨#[46]⟩ : ByteArray) ++ t263⟩ : S29) [.string ((⟨#[97, 110, 110, 64]⟩ : ByteArray) ++ t262), .string ((⟨#[46]⟩ : ByteArray) ++ t263)] from (k29_mkM _ _ _ (⟨(⟨#[97, 110, 110, 64]⟩ : ByteArray) ++ t262, (⟨#[46]⟩ : ByteArray) ++ t263⟩ : S29) )) (Reps.c2 (show Kd.M k29 _ _ _ (⟨(⟨#[97, 110, 110, 64]⟩ : ByteArray) ++ t262, (⟨#[97, 110, 110, 64]⟩ : ByteArray) ++ t263⟩ : S29) [.string ((⟨#[97, 110, 110, 64]⟩ : ByteArray) ++ t262), .string ((⟨#[97, 110, 110, 64]⟩ : ByteArray) ++ t263)] from (k29_mkM _ _ _ (⟨(⟨#[97, 110, 110, 64]⟩ : ByteArray) ++ t262, (⟨#[97, 110, 110, 64]⟩ : ByteArray) ++ t263⟩ : S29) )) (Reps.c2 (show Kd.M k29 _ _ _ (⟨(⟨#[97, 110, 110, 64]⟩ : ByteArray) ++ t262, (⟨#[65, 110, 110, 64]⟩ : ByteArray) ++ t262⟩ : S29) [.string ((⟨#[97, 110, 110, 64]⟩ : ByteArray) ++ t262), .string ((⟨#[65, 110, 110, 64]⟩ : ByteArray) ++ t262)] from (k29_mkM _ _ _ (⟨(⟨#[97, 110, 110, 64]⟩ : ByteArray) ++ t262, (⟨#[65, 110, 110, 64]⟩ : ByteArray) ++ t262⟩ : S29) )) (Reps.c2 (show Kd.M k29 _ _ _ (⟨t262, t263⟩ : S29) [.string t262, .string t263] from (k29_mkM _ _ _ (⟨t262, t263⟩ : S29) )) (Reps.c2 (show Kd.M k29 _ _ _ (⟨t262, (⟨#[46]⟩ : ByteArray) ++ t263⟩ : S29) [.string t262, .string ((⟨#[46]⟩ : ByteArray) ++ t263)] from (k29_mkM _ _ _ (⟨t262, (⟨#[46]⟩ : ByteArray) ++ t263⟩ : S29) )) (Reps.c2 (show Kd.M k29 _ _ _ (⟨(⟨#[46]⟩ : ByteArray) ++ t262, (⟨#[46]⟩ : ByteArray) ++ t263⟩ : S29) [.string ((⟨#[46]⟩ : ByteArray) ++ t262), .string ((⟨#[46]⟩ : ByteArray) ++ t263)] from (k29_mkM _ _ _ (⟨(⟨#[46]⟩ : ByteArray) ++ t262, (⟨#[46]⟩ : ByteArray) ++ t263⟩ : S29) )) (Reps.c2 (show Kd.M k29 _ _ _ (⟨(⟨#[46]⟩ : ByteArray) ++ t262, t263⟩ : S29) [.string ((⟨#[46]⟩ : ByteArray) ++ t262), .string t263] from (k29_mkM _ _ _ (⟨(⟨#[46]⟩ : ByteArray) ++ t262, t263⟩ : S29) )) (Reps.c2 (show Kd.M k29 _ _ _ (⟨t262, (⟨#[97, 110, 110, 64]⟩ : ByteArray) ++ t262⟩ : S29) [.string t262, .string ((⟨#[97, 110, 110, 64]⟩ : ByteArray) ++ t262)] from (k29_mkM _ _ _ (⟨t262, (⟨#[97, 110, 110, 64]⟩ : ByteArray) ++ t262⟩ : S29) )) (Reps.c2 (show Kd.M k29 _ _ _ (⟨t264, t265⟩ : S29) [.string t264, .string t265] from (k29_mkM _ _ _ (⟨t264, t265⟩ : S29) )) (Reps.c2 (show Kd.M k29 _ _ _ (⟨(⟨#[97, 110, 110, 64]⟩ : ByteArray) ++ t262, t266⟩ : S29) [.string ((⟨#[97, 110, 110, 64]⟩ : ByteArray) ++ t262), .string t266] from (k29_mkM _ _ _ (⟨(⟨#[97, 110, 110, 64]⟩ : ByteArray) ++ t262, t266⟩ : S29) )) (Reps.none _ _)))))))))))))); intro v268 w24 ho25 hb hg_ hnew_; clear hg_ hnew_; (first | rw [← Ny267.out] at ho25 | (simp only [Int.reduceToNat] at ho25; rw [← Ny267.out] at ho25)); have n0_ := Aside0.mk (Kd.R_lower ho25 (below_size (by repeat (first | (with_reducible first | exact HB.out | apply below_alloc | apply pw_below_drewN | apply below_drew1) | exact HB.out)))); have n1_ := Aside0.mk (below_step (by repeat (first | (with_reducible first | exact HB.out | apply below_alloc | apply pw_below_drewN | apply below_drew1) | exact HB.out)) hb); clear HB; have HO269 := n0_; have HB := n1_; clear n0_ n1_; clear hb ho25; obtain ⟨Ao26, co26, eo26⟩ := Kd.R_slice HO269.out; subst eo26))
                go_loopg [81] kj4 (fun kq v81 w' => ∃ (x81_2 : Int), v81 = .int .i64 x81_2 ∧ Aside0 (certpathlaw08_HostMail.l0 kq y267 (y267.length : Int) x81_2 = some r) ∧ Aside0 (kq ≤ kj4) ∧ Aside0 (Kd.R k29 29 w' w.heap.size (fun _ => True) (.slice Ao26 y267.length co26) y267) ∧ Aside0 (Below w.heap.size w w'))
                case atStart => exact ⟨(0), (by first | rfl | (simp; done) | (simp [*]; done)), H', ⟨Nat.le_refl _⟩, ⟨by (with_reducible repeat (first | apply Kd.R_alloc | apply Kd.R_drewN | apply Kd.R_drew)); exact HO269.out⟩, ⟨by repeat (first | (with_reducible first | exact HB.out | apply below_alloc | apply pw_below_drewN | apply below_drew1) | exact HB.out)⟩⟩
                case round =>
                  clear H'
                  try clear c1
                  try clear c2
                  try clear p2
                  try clear c3
                  try clear c5
                  try clear c6
                  try clear c6b0
                  try clear c6b1
                  try clear c7
                  try clear c10
                  try clear c11
                  try clear c12
                  try clear c12b0
                  try clear c12b1
                  try clear c12b2
                  try clear c13
                  try clear c13b0
                  try clear c13b1
                  try clear c13b2
                  try clear c14
                  try clear c14b0
                  try clear c14b1
                  try clear c14b2
                  try clear c15
                  try clear c15b0
                  try clear c15b1
                  try clear c15b2
                  try clear c23
                  try clear p2
                  obtain ⟨x81_2, rfl, HA, HK2, HO_79, HB⟩ := hrel
                  cases gk with
                  | zero => exact absurd HA.out (by simp [certpathlaw08_HostMail.l0])
                  | succ k2 =>
                    have H := HA.out
                    clear HA
                    simp only [certpathlaw08_HostMail.l0] at H
                    by_cases c27 : x81_2 < (y267.length : Int)
                    · rw [if_pos c27] at H
                      have c27b0 : decide (x81_2 < (y267.length : Int)) = true := decide_eq_true c27
                      clear c27
                      by_cases c28 : 0 ≤ x81_2
                      · rw [if_pos c28] at H
                        have c28b0 : decide (0 ≤ x81_2) = true := decide_eq_true c28
                        clear c28
                        by_cases c29 : x81_2 < (y267.length : Int)
                        · rw [if_pos c29] at H
                          have c29b0 : decide (x81_2 < (y267.length : Int)) = true := decide_eq_true c29
                          clear c29
                          replace H := Option.bind_eq_some_iff.mp H
                          obtain ⟨t273, A300, H⟩ := H
                          replace H : ((certpathref07_MailMatch.f k2 ((rd_T29 y267 x81_2).f0) ((rd_T29 y267 x81_2).f1)).bind fun t274 => (if (t273 != t274) = true then (some false) else ((host_MailWithin.f k2 ((rd_T29 y267 x81_2).f0) ((rd_T29 y267 x81_2).f1)).bind fun t275 => ((certpathref07_MailWithin.f k2 ((rd_T29 y267 x81_2).f0) ((rd_T29 y267 x81_2).f1)).bind fun t276 => (if (t275 != t276) = true then (some false) else (certpathlaw08_HostMail.l0 k2 y267 (y267.length : Int) (wrap64 (x81_2 + 1)))))))) = some r := H
                          have A30 := Aside0.mk A300
                          clear A300
                          replace H := Option.bind_eq_some_iff.mp H
                          obtain ⟨t274, A310, H⟩ := H
                          replace H : (if (t273 != t274) = true then (some false) else ((host_MailWithin.f k2 ((rd_T29 y267 x81_2).f0) ((rd_T29 y267 x81_2).f1)).bind fun t275 => ((certpathref07_MailWithin.f k2 ((rd_T29 y267 x81_2).f0) ((rd_T29 y267 x81_2).f1)).bind fun t276 => (if (t275 != t276) = true then (some false) else (certpathlaw08_HostMail.l0 k2 y267 (y267.length : Int) (wrap64 (x81_2 + 1))))))) = some r := H
                          have A31 := Aside0.mk A310
                          clear A310
                          by_cases c32 : (t273 != t274) = true
                          · rw [if_pos c32] at H
                            have c32b0 : (t273 != t274) = true := c32
                            (try (have c32b1 : decide (t273 = t274) = false := by simpa using c32))
                            (try (have c32b2 : (t273 == t274) = false := by simpa using c32))
                            (try (have c32b3 : ¬ (t273 = t274) := by simpa using c32))
                            clear c32
                            obtain rfl := Option.some.inj H
                            have p271 : 0 ≤ (x81_2 : Int) := of_decide_eq_true (by first | (with_reducible assumption) | assumption)
                            have q271 : x81_2 < (y267.length : Int) := of_decide_eq_true (by first | (with_reducible assumption) | assumption)
                            obtain ⟨ad271, e271, hx271_0, hx271_1⟩ := at_T29 (Kd.R_reads' HO_79.out).2.2 x81_2 p271 q271
                            cases e271
                            replace p271 := eq_true p271
                            replace q271 := eq_true q271
                            try go_wp2_with (first | ((with_reducible refine gate_dst (N := 12) rfl ?_); (try (refine gate_guard (by rfl) ?_; dsimp only)); refine box_event ?hg (N := 12) ?hd (cs := #[.string (⟨#[]⟩ : ByteArray), .string (⟨#[]⟩ : ByteArray)]) (t := 29) ?hr ?_; (case hd => rfl); (case hg => rfl); (case hr => first | (go_simp; done) | (go_simp; rfl)); intro gb272 hg w33 hbox hb; have n0_ := Aside0.mk (Kd.R_below (Kd.R_elderB (by (with_reducible repeat (first | apply Kd.R_alloc | apply Kd.R_drewN | apply Kd.R_drew)); exact HO_79.out) gb272 (Nat.le_of_eq hg.symm)) hb); have n1_ := Aside0.mk (below_step (by repeat (first | (with_reducible first | exact HB.out | apply below_alloc | apply pw_below_drewN | apply below_drew1) | exact HB.out)) hb); have n2_ := Aside0.mk (hbox); have n3_ := Aside0.mk ((by rw [hg]; exact (below_size (by repeat (first | (with_reducible first | exact HB.out | apply below_alloc | apply pw_below_drewN | apply below_drew1) | exact HB.out))) : w.heap.size ≤ gb272)); have n4_ := Aside0.mk ((by rw [hg]; exact (below_size (by repeat (first | (with_reducible first | exact HB.out | apply below_alloc | apply pw_below_drewN | apply below_drew1) | exact HB.out))) : w.heap.size ≤ gb272)); clear HO_79; clear HB; have HO_79 := n0_; have HB := n1_; have BK272 := n2_; have GW272 := n3_; have GE272 := n4_; clear n0_ n1_ n2_ n3_ n4_; clear hb hbox hg; have hcz34_0 : w33.cell? ⟨gb272, 0, none⟩ = some (.string (⟨#[]⟩ : ByteArray)) := (blk_cell BK272.out 0).trans rfl; have hcz34_1 : w33.cell? ⟨gb272, 1, none⟩ = some (.string (⟨#[]⟩ : ByteArray)) := (blk_cell BK272.out 1).trans rfl; have hfz34_0 := blk_frozen BK272.out 0; have hfz34_1 := blk_frozen BK272.out 1))
                            have n0_ : Aside0 (Kd.R k29 29 ((w33.setCell ⟨gb272, 0, none⟩ (.string ((rd_T29 y267 x81_2).f0))).setCell ⟨gb272, 1, none⟩ (.string ((rd_T29 y267 x81_2).f1))) w.heap.size (fun k_ => k_ ≠ gb272) (.slice (some ad271) y267.length co26) y267) := ⟨by (with_reducible repeat (first | apply Kd.R_alloc | apply Kd.R_drewN | apply Kd.R_drew)); exact Kd.R_mono (Kd.R_far (p := ⟨gb272, 1, none⟩) (Kd.R_far (p := ⟨gb272, 0, none⟩) (Kd.R_mono HO_79.out (fun k_ hk => (⟨hk, hk.2⟩ : _ ∧ k_ ≠ gb272))) (fun _ hk => hk.2) (.string ((rd_T29 y267 x81_2).f0))) (fun _ hk => hk.2) (.string ((rd_T29 y267 x81_2).f1))) (fun _ hk => hk.1.2)⟩
                            have n1_ : Aside0 (((w33.setCell ⟨gb272, 0, none⟩ (.string ((rd_T29 y267 x81_2).f0))).setCell ⟨gb272, 1, none⟩ (.string ((rd_T29 y267 x81_2).f1))).heap[gb272]? = some (.cells #[.string ((rd_T29 y267 x81_2).f0), .string ((rd_T29 y267 x81_2).f1)] 29 (0, 0))) := ⟨by (with_reducible repeat (first | refine blk_drewN ?_ _ | refine blk_drew ?_ | refine blk_alloc ?_ _)); refine blk_put (cs := #[.string ((rd_T29 y267 x81_2).f0), .string (⟨#[]⟩ : ByteArray)]) ?_ 1 _ rfl; (with_reducible repeat (first | refine blk_drewN ?_ _ | refine blk_drew ?_ | refine blk_alloc ?_ _)); refine blk_put (cs := #[.string (⟨#[]⟩ : ByteArray), .string (⟨#[]⟩ : ByteArray)]) ?_ 0 _ rfl; (with_reducible repeat (first | refine blk_drewN ?_ _ | refine blk_drew ?_ | refine blk_alloc ?_ _)); exact BK272.out⟩
                            have n2_ : Aside0 (Below w.heap.size w ((w33.setCell ⟨gb272, 0, none⟩ (.string ((rd_T29 y267 x81_2).f0))).setCell ⟨gb272, 1, none⟩ (.string ((rd_T29 y267 x81_2).f1)))) := ⟨by repeat (first | (with_reducible first | exact HB.out | apply below_alloc | apply pw_below_drewN | apply below_drew1 | refine below_set ?_ GE272.out) | exact HB.out)⟩
                            (try clear HO_79)
                            (try clear BK272)
                            (try clear HB)
                            generalize ((w33.setCell ⟨gb272, 0, none⟩ (.string ((rd_T29 y267 x81_2).f0))).setCell ⟨gb272, 1, none⟩ (.string ((rd_T29 y267 x81_2).f1))) = w35 at n0_ n1_ n2_ ⊢
                            have HO_79 := n0_
                            have BK272 := n1_
                            have HB := n2_
                            clear n0_ n1_ n2_
                            have n0_ := Aside0.mk (Kd.R_drew HO_79.out)
                            have n1_ := Aside0.mk (blk_drew BK272.out)
                            have n2_ := Aside0.mk (below_drew1 HB.out)
                            clear HO_79
                            clear BK272
                            clear HB
                            have HO_79 := n0_
                            have BK272 := n1_
                            have HB := n2_
                            clear n0_ n1_ n2_
                            refine start_ (n := 24) (S := fun w' => w'.cell? ⟨gb272, 0, none⟩ = some (.string ((rd_T29 y267 x81_2).f0)) ∧ w'.cell? ⟨gb272, 1, none⟩ = some (.string ((rd_T29 y267 x81_2).f1))) (ds := []) #[false, false, false, false, false, false, false, false, false, false, false, false, false, false, false, false, false, false, false, false, false, false, false, false] (by kernel_rfl) rfl rfl ⟨(blk_cell BK272.out 0).trans rfl, (blk_cell BK272.out 1).trans rfl⟩ (fun hHeld => ?_); refine with_tabW certpathlaw08_HostMail.tab7 certpathlaw08_HostMail.bits7 (fun HT_ HW_ => ?_)
                            generalize w35.drew = w36 at HO_79 BK272 HB hHeld ⊢
                            refine pure_ (i := 0) (N := some 85) (v := ?_) (a' := ?_) #[true, false, false, false, false, false, false, false, false, false, false, false, false, false, false, false, false, false, false, false, false, false, false, false] rfl rfl (any_of HT_.out (by kernel_rfl)) (fun _ _ _ h => h) (Or.inl ⟨by rfl, ?_⟩) ?_ ?_
                            rotate_left
                            · intro w'
                              go_simp
                              with_reducible rfl
                            rotate_left
                            · simp only [Act.put, List.setIfInBounds_toArray, List.set_cons_zero, List.set_cons_succ, i64_w, i32_w]
                              rfl
                            refine pure_ (i := 2) (N := some 87) (v := ?_) (a' := ?_) #[true, false, true, false, false, false, false, false, false, false, false, false, false, false, false, false, false, false, false, false, false, false, false, false] rfl rfl (any_of HT_.out (by kernel_rfl)) (fun _ _ _ h => h) (Or.inl ⟨by rfl, ?_⟩) ?_ ?_
                            rotate_left
                            · intro w'
                              go_simp
                              with_reducible rfl
                            rotate_left
                            · simp only [Act.put, List.setIfInBounds_toArray, List.set_cons_zero, List.set_cons_succ, i64_w, i32_w]
                              rfl
                            refine pure_ (i := 5) (N := some 90) (v := ?_) (a' := ?_) #[true, false, true, false, false, true, false, false, false, false, false, false, false, false, false, false, false, false, false, false, false, false, false, false] rfl rfl (any_of HT_.out (by kernel_rfl)) (fun _ _ _ h => h) (Or.inl ⟨by rfl, ?_⟩) ?_ ?_
                            rotate_left
                            · intro w'
                              go_simp
                              with_reducible rfl
                            rotate_left
                            · simp only [Act.put, List.setIfInBounds_toArray, List.set_cons_zero, List.set_cons_succ, i64_w, i32_w]
                              rfl
                            refine pure_ (i := 7) (N := some 92) (v := ?_) (a' := ?_) #[true, false, true, false, false, true, false, true, false, false, false, false, false, false, false, false, false, false, false, false, false, false, false, false] rfl rfl (any_of HT_.out (by kernel_rfl)) (fun _ _ _ h => h) (Or.inl ⟨by rfl, ?_⟩) ?_ ?_
                            rotate_left
                            · intro w'
                              go_simp
                              with_reducible rfl
                            rotate_left
                            · simp only [Act.put, List.setIfInBounds_toArray, List.set_cons_zero, List.set_cons_succ, i64_w, i32_w]
                              rfl
                            refine take_ (i := 1) (N := some 86) (v := ?_) (a' := ?_) #[true, true, true, false, false, true, false, true, false, false, false, false, false, false, false, false, false, false, false, false, false, false, false, false] rfl rfl (take_ofW HT_.out HW_.out (by kernel_rfl)) (fun _ _ _ h => h) (Or.inl ⟨by rfl, ?_⟩) hHeld ?_ ?_
                            rotate_left
                            · rintro w' ⟨s0, s1⟩
                              go_simp
                              with_reducible rfl
                            rotate_left
                            · simp only [Act.put, List.setIfInBounds_toArray, List.set_cons_zero, List.set_cons_succ, i64_w, i32_w]
                              rfl
                            refine take_ (i := 3) (N := some 88) (v := ?_) (a' := ?_) #[true, true, true, true, false, true, false, true, false, false, false, false, false, false, false, false, false, false, false, false, false, false, false, false] rfl rfl (take_ofW HT_.out HW_.out (by kernel_rfl)) (fun _ _ _ h => h) (Or.inl ⟨by rfl, ?_⟩) hHeld ?_ ?_
                            rotate_left
                            · rintro w' ⟨s0, s1⟩
                              go_simp
                              with_reducible rfl
                            rotate_left
                            · simp only [Act.put, List.setIfInBounds_toArray, List.set_cons_zero, List.set_cons_succ, i64_w, i32_w]
                              rfl
                            refine take_ (i := 6) (N := some 91) (v := ?_) (a' := ?_) #[true, true, true, true, false, true, true, true, false, false, false, false, false, false, false, false, false, false, false, false, false, false, false, false] rfl rfl (take_ofW HT_.out HW_.out (by kernel_rfl)) (fun _ _ _ h => h) (Or.inl ⟨by rfl, ?_⟩) hHeld ?_ ?_
                            rotate_left
                            · rintro w' ⟨s0, s1⟩
                              go_simp
                              with_reducible rfl
                            rotate_left
                            · simp only [Act.put, List.setIfInBounds_toArray, List.set_cons_zero, List.set_cons_succ, i64_w, i32_w]
                              rfl
                            refine take_ (i := 8) (N := some 93) (v := ?_) (a' := ?_) #[true, true, true, true, false, true, true, true, true, false, false, false, false, false, false, false, false, false, false, false, false, false, false, false] rfl rfl (take_ofW HT_.out HW_.out (by kernel_rfl)) (fun _ _ _ h => h) (Or.inl ⟨by rfl, ?_⟩) hHeld ?_ ?_
                            rotate_left
                            · rintro w' ⟨s0, s1⟩
                              go_simp
                              with_reducible rfl
                            rotate_left
                            · simp only [Act.put, List.setIfInBounds_toArray, List.set_cons_zero, List.set_cons_succ, i64_w, i32_w]
                              rfl
                            refine one_ (i := 4) (N := some 89) #[true, true, true, true, true, true, true, true, true, false, false, false, false, false, false, false, false, false, false, false, false, false, false, false] rfl rfl (one_of HT_.out (by kernel_rfl)) (by decide) (fun K hK => ?_)
                            refine goes_ Tryd.func24 (by kernel_rfl) rfl #[.string ((rd_T29 y267 x81_2).f0), .string ((rd_T29 y267 x81_2).f1)] (by rfl) rfl rfl (by (try simp only [List.map_toArray, List.map_cons, List.map_nil]); first | done | rfl | (simp only [List.length_drop, List.length_take]; rfl)) ?_
                            with_reducible refine (host_MailMatch.calls k2 ((rd_T29 y267 x81_2).f0) ((rd_T29 y267 x81_2).f1) t273 _ ?side1 A30.out).mono ?_
                            (case side1 => refine Ext.G.step ?_ hG_; repeat (first | (with_reducible first | exact HB.out | apply below_alloc | apply pw_below_drewN | apply below_drew1 | refine below_set ?_ GE272.out) | exact HB.out))
                            rintro e w37 ⟨rfl, hb⟩
                            refine ⟨_, rfl, ?_⟩
                            have n0_ := Aside0.mk (Kd.R_below (by (with_reducible repeat (first | apply Kd.R_alloc | apply Kd.R_drewN | apply Kd.R_drew)); exact HO_79.out) hb)
                            have n1_ := Aside0.mk (blk_below (g := gb272) (o := .cells #[.string ((rd_T29 y267 x81_2).f0), .string ((rd_T29 y267 x81_2).f1)] 29 (0, 0)) (by (with_reducible repeat (first | refine blk_drewN ?_ _ | refine blk_drew ?_ | refine blk_alloc ?_ _)); exact BK272.out) hb)
                            have n2_ := Aside0.mk (below_step (by repeat (first | (with_reducible first | exact HB.out | apply below_alloc | apply pw_below_drewN | apply below_drew1 | refine below_set ?_ GE272.out) | exact HB.out)) hb)
                            clear HO_79
                            clear BK272
                            clear HB
                            have HO_79 := n0_
                            have BK272 := n1_
                            have HB := n2_
                            clear n0_ n1_ n2_
                            (try clear hb)
                            (try clear hb2)
                            (try clear hk)
                            (try clear hi)
                            refine hK.out _ _ ⟨(blk_cell BK272.out 0).trans rfl, (blk_cell BK272.out 1).trans rfl⟩ (fun hHeld => ?_)
                            clear hK K
                            refine norm_ (a' := ?_) ?_ ?_
                            rotate_left
                            · show Act.put _ (some 89) _ = _
                              simp only [Act.put, List.setIfInBounds_toArray, List.set_cons_zero, List.set_cons_succ, i64_w, i32_w]
                              rfl
                            refine one_ (i := 9) (N := some 94) #[true, true, true, true, true, true, true, true, true, true, false, false, false, false, false, false, false, false, false, false, false, false, false, false] rfl rfl (one_of HT_.out (by kernel_rfl)) (by decide) (fun K hK => ?_)
                            refine goes_ Tryd.func25 (by kernel_rfl) rfl #[.string ((rd_T29 y267 x81_2).f0), .string ((rd_T29 y267 x81_2).f1)] (by rfl) rfl rfl (by (try simp only [List.map_toArray, List.map_cons, List.map_nil]); first | done | rfl | (simp only [List.length_drop, List.length_take]; rfl)) ?_
                            with_reducible refine (certpathref07_MailMatch.calls k2 ((rd_T29 y267 x81_2).f0) ((rd_T29 y267 x81_2).f1) t274 _ ?side1 A31.out).mono ?_
                            (case side1 => refine Ext.G.step ?_ hG_; repeat (first | (with_reducible first | exact HB.out | apply below_alloc | apply pw_below_drewN | apply below_drew1 | refine below_set ?_ GE272.out) | exact HB.out))
                            rintro e w38 ⟨rfl, hb⟩
                            refine ⟨_, rfl, ?_⟩
                            have n0_ := Aside0.mk (Kd.R_below (by (with_reducible repeat (first | apply Kd.R_alloc | apply Kd.R_drewN | apply Kd.R_drew)); exact HO_79.out) hb)
                            have n1_ := Aside0.mk (blk_below (g := gb272) (o := .cells #[.string ((rd_T29 y267 x81_2).f0), .string ((rd_T29 y267 x81_2).f1)] 29 (0, 0)) (by (with_reducible repeat (first | refine blk_drewN ?_ _ | refine blk_drew ?_ | refine blk_alloc ?_ _)); exact BK272.out) hb)
                            have n2_ := Aside0.mk (below_step (by repeat (first | (with_reducible first | exact HB.out | apply below_alloc | apply pw_below_drewN | apply below_drew1 | refine below_set ?_ GE272.out) | exact HB.out)) hb)
                            clear HO_79
                            clear BK272
                            clear HB
                            have HO_79 := n0_
                            have BK272 := n1_
                            have HB := n2_
                            clear n0_ n1_ n2_
                            (try clear hb)
                            (try clear hb2)
                            (try clear hk)
                            (try clear hi)
                            refine hK.out _ _ ⟨(blk_cell BK272.out 0).trans rfl, (blk_cell BK272.out 1).trans rfl⟩ (fun hHeld => ?_)
                            clear hK K
                            refine norm_ (a' := ?_) ?_ ?_
                            rotate_left
                            · show Act.put _ (some 94) _ = _
                              simp only [Act.put, List.setIfInBounds_toArray, List.set_cons_zero, List.set_cons_succ, i64_w, i32_w]
                              rfl
                            refine pure_ (i := 10) (N := some 95) (v := ?_) (a' := ?_) #[true, true, true, true, true, true, true, true, true, true, true, false, false, false, false, false, false, false, false, false, false, false, false, false] rfl rfl (any_of HT_.out (by kernel_rfl)) (fun _ _ _ h => h) (Or.inl ⟨by rfl, ?_⟩) ?_ ?_
                            rotate_left
                            · intro w'
                              go_simp
                              with_reducible rfl
                            rotate_left
                            · simp only [Act.put, List.setIfInBounds_toArray, List.set_cons_zero, List.set_cons_succ, i64_w, i32_w]
                              rfl
                            refine pure_ (i := 11) (N := some 96) (v := ?_) (a' := ?_) #[true, true, true, true, true, true, true, true, true, true, true, true, false, false, false, false, false, false, false, false, false, false, false, false] rfl rfl (any_of HT_.out (by kernel_rfl)) (fun _ _ _ h => h) (Or.inl ⟨by rfl, ?_⟩) ?_ ?_
                            rotate_left
                            · intro w'
                              go_simp
                              with_reducible rfl
                            rotate_left
                            · simp only [Act.put, List.setIfInBounds_toArray, List.set_cons_zero, List.set_cons_succ, i64_w, i32_w]
                              rfl
                            refine pure_ (i := 12) (N := some 97) (v := undef) (a' := ?_) #[true, true, true, true, true, true, true, true, true, true, true, true, true, false, false, false, false, false, false, false, false, false, false, false] rfl rfl (any_of HT_.out (by kernel_rfl)) (fun _ _ _ h => h) (Or.inr ⟨by rfl, rfl⟩) ?_ ?_
                            rotate_left
                            · simp only [Act.put, List.setIfInBounds_toArray, List.set_cons_zero, List.set_cons_succ, i64_w, i32_w]
                              rfl
                            refine pure_ (i := 13) (N := some 98) (v := undef) (a' := ?_) #[true, true, true, true, true, true, true, true, true, true, true, true, true, true, false, false, false, false, false, false, false, false, false, false] rfl rfl (any_of HT_.out (by kernel_rfl)) (fun _ _ _ h => h) (Or.inr ⟨by rfl, rfl⟩) ?_ ?_
                            rotate_left
                            · simp only [Act.put, List.setIfInBounds_toArray, List.set_cons_zero, List.set_cons_succ, i64_w, i32_w]
                              rfl
                            refine pure_ (i := 14) (N := some 99) (v := undef) (a' := ?_) #[true, true, true, true, true, true, true, true, true, true, true, true, true, true, true, false, false, false, false, false, false, false, false, false] rfl rfl (any_of HT_.out (by kernel_rfl)) (fun _ _ _ h => h) (Or.inr ⟨by rfl, rfl⟩) ?_ ?_
                            rotate_left
                            · simp only [Act.put, List.setIfInBounds_toArray, List.set_cons_zero, List.set_cons_succ, i64_w, i32_w]
                              rfl
                            refine pure_ (i := 15) (N := some 100) (v := undef) (a' := ?_) #[true, true, true, true, true, true, true, true, true, true, true, true, true, true, true, true, false, false, false, false, false, false, false, false] rfl rfl (any_of HT_.out (by kernel_rfl)) (fun _ _ _ h => h) (Or.inr ⟨by rfl, rfl⟩) ?_ ?_
                            rotate_left
                            · simp only [Act.put, List.setIfInBounds_toArray, List.set_cons_zero, List.set_cons_succ, i64_w, i32_w]
                              rfl
                            refine pure_ (i := 16) (N := some 101) (v := undef) (a' := ?_) #[true, true, true, true, true, true, true, true, true, true, true, true, true, true, true, true, true, false, false, false, false, false, false, false] rfl rfl (any_of HT_.out (by kernel_rfl)) (fun _ _ _ h => h) (Or.inr ⟨by rfl, rfl⟩) ?_ ?_
                            rotate_left
                            · simp only [Act.put, List.setIfInBounds_toArray, List.set_cons_zero, List.set_cons_succ, i64_w, i32_w]
                              rfl
                            refine pure_ (i := 17) (N := some 102) (v := undef) (a' := ?_) #[true, true, true, true, true, true, true, true, true, true, true, true, true, true, true, true, true, true, false, false, false, false, false, false] rfl rfl (any_of HT_.out (by kernel_rfl)) (fun _ _ _ h => h) (Or.inr ⟨by rfl, rfl⟩) ?_ ?_
                            rotate_left
                            · simp only [Act.put, List.setIfInBounds_toArray, List.set_cons_zero, List.set_cons_succ, i64_w, i32_w]
                              rfl
                            refine pure_ (i := 18) (N := some 103) (v := undef) (a' := ?_) #[true, true, true, true, true, true, true, true, true, true, true, true, true, true, true, true, true, true, true, false, false, false, false, false] rfl rfl (any_of HT_.out (by kernel_rfl)) (fun _ _ _ h => h) (Or.inr ⟨by rfl, rfl⟩) ?_ ?_
                            rotate_left
                            · simp only [Act.put, List.setIfInBounds_toArray, List.set_cons_zero, List.set_cons_succ, i64_w, i32_w]
                              rfl
                            refine pure_ (i := 19) (N := some 104) (v := undef) (a' := ?_) #[true, true, true, true, true, true, true, true, true, true, true, true, true, true, true, true, true, true, true, true, false, false, false, false] rfl rfl (any_of HT_.out (by kernel_rfl)) (fun _ _ _ h => h) (Or.inr ⟨by rfl, rfl⟩) ?_ ?_
                            rotate_left
                            · simp only [Act.put, List.setIfInBounds_toArray, List.set_cons_zero, List.set_cons_succ, i64_w, i32_w]
                              rfl
                            refine pure_ (i := 20) (N := some 105) (v := undef) (a' := ?_) #[true, true, true, true, true, true, true, true, true, true, true, true, true, true, true, true, true, true, true, true, true, false, false, false] rfl rfl (any_of HT_.out (by kernel_rfl)) (fun _ _ _ h => h) (Or.inr ⟨by rfl, rfl⟩) ?_ ?_
                            rotate_left
                            · simp only [Act.put, List.setIfInBounds_toArray, List.set_cons_zero, List.set_cons_succ, i64_w, i32_w]
                              rfl
                            refine pure_ (i := 21) (N := some 106) (v := undef) (a' := ?_) #[true, true, true, true, true, true, true, true, true, true, true, true, true, true, true, true, true, true, true, true, true, true, false, false] rfl rfl (any_of HT_.out (by kernel_rfl)) (fun _ _ _ h => h) (Or.inr ⟨by rfl, rfl⟩) ?_ ?_
                            rotate_left
                            · simp only [Act.put, List.setIfInBounds_toArray, List.set_cons_zero, List.set_cons_succ, i64_w, i32_w]
                              rfl
                            refine pure_ (i := 22) (N := some 107) (v := undef) (a' := ?_) #[true, true, true, true, true, true, true, true, true, true, true, true, true, true, true, true, true, true, true, true, true, true, true, false] rfl rfl (any_of HT_.out (by kernel_rfl)) (fun _ _ _ h => h) (Or.inr ⟨by rfl, rfl⟩) ?_ ?_
                            rotate_left
                            · simp only [Act.put, List.setIfInBounds_toArray, List.set_cons_zero, List.set_cons_succ, i64_w, i32_w]
                              rfl
                            refine pure_ (i := 23) (N := some 108) (v := ?_) (a' := ?_) #[true, true, true, true, true, true, true, true, true, true, true, true, true, true, true, true, true, true, true, true, true, true, true, true] rfl rfl (any_of HT_.out (by kernel_rfl)) (fun _ _ _ h => h) (Or.inl ⟨by rfl, ?_⟩) ?_ ?_
                            rotate_left
                            · intro w'
                              go_simp
                              with_reducible rfl
                            rotate_left
                            · simp only [Act.put, List.setIfInBounds_toArray, List.set_cons_zero, List.set_cons_succ, i64_w, i32_w]
                              rfl
                            refine done_ (done_of HT_.out (by kernel_rfl)) ?_
                            try go_wp2
                            go_ret
                            exact ⟨by first | rfl | (simp [errW_none, errW_some] <;> rfl) | (simp [*, errW_none, errW_some] <;> rfl), by repeat (first | (with_reducible first | exact HB.out | apply below_alloc | apply pw_below_drewN | apply below_drew1 | refine below_set ?_ GE272.out) | exact HB.out)⟩
                          · rw [if_neg c32] at H
                            have c32b0 : (t273 != t274) = false := by simpa using c32
                            (try (have c32b1 : decide (t273 = t274) = true := by simpa using c32))
                            (try (have c32b2 : (t273 == t274) = true := by simpa using c32))
                            clear c32
                            replace H := Option.bind_eq_some_iff.mp H
                            obtain ⟨t275, A390, H⟩ := H
                            replace H : ((certpathref07_MailWithin.f k2 ((rd_T29 y267 x81_2).f0) ((rd_T29 y267 x81_2).f1)).bind fun t276 => (if (t275 != t276) = true then (some false) else (certpathlaw08_HostMail.l0 k2 y267 (y267.length : Int) (wrap64 (x81_2 + 1))))) = some r := H
                            have A39 := Aside0.mk A390
                            clear A390
                            replace H := Option.bind_eq_some_iff.mp H
                            obtain ⟨t276, A400, H⟩ := H
                            replace H : (if (t275 != t276) = true then (some false) else (certpathlaw08_HostMail.l0 k2 y267 (y267.length : Int) (wrap64 (x81_2 + 1)))) = some r := H
                            have A40 := Aside0.mk A400
                            clear A400
                            by_cases c41 : (t275 != t276) = true
                            · rw [if_pos c41] at H
                              have c41b0 : (t275 != t276) = true := c41
                              (try (have c41b1 : decide (t275 = t276) = false := by simpa using c41))
                              (try (have c41b2 : (t275 == t276) = false := by simpa using c41))
                              (try (have c41b3 : ¬ (t275 = t276) := by simpa using c41))
                              clear c41
                              obtain rfl := Option.some.inj H
                              have p271 : 0 ≤ (x81_2 : Int) := of_decide_eq_true (by first | (with_reducible assumption) | assumption)
                              have q271 : x81_2 < (y267.length : Int) := of_decide_eq_true (by first | (with_reducible assumption) | assumption)
                              obtain ⟨ad271, e271, hx271_0, hx271_1⟩ := at_T29 (Kd.R_reads' HO_79.out).2.2 x81_2 p271 q271
                              cases e271
                              replace p271 := eq_true p271
                              replace q271 := eq_true q271
                              try go_wp2_with (first | ((with_reducible refine gate_dst (N := 12) rfl ?_); (try (refine gate_guard (by rfl) ?_; dsimp only)); refine box_event ?hg (N := 12) ?hd (cs := #[.string (⟨#[]⟩ : ByteArray), .string (⟨#[]⟩ : ByteArray)]) (t := 29) ?hr ?_; (case hd => rfl); (case hg => rfl); (case hr => first | (go_simp; done) | (go_simp; rfl)); intro gb272 hg w42 hbox hb; have n0_ := Aside0.mk (Kd.R_below (Kd.R_elderB (by (with_reducible repeat (first | apply Kd.R_alloc | apply Kd.R_drewN | apply Kd.R_drew)); exact HO_79.out) gb272 (Nat.le_of_eq hg.symm)) hb); have n1_ := Aside0.mk (below_step (by repeat (first | (with_reducible first | exact HB.out | apply below_alloc | apply pw_below_drewN | apply below_drew1) | exact HB.out)) hb); have n2_ := Aside0.mk (hbox); have n3_ := Aside0.mk ((by rw [hg]; exact (below_size (by repeat (first | (with_reducible first | exact HB.out | apply below_alloc | apply pw_below_drewN | apply below_drew1) | exact HB.out))) : w.heap.size ≤ gb272)); have n4_ := Aside0.mk ((by rw [hg]; exact (below_size (by repeat (first | (with_reducible first | exact HB.out | apply below_alloc | apply pw_below_drewN | apply below_drew1) | exact HB.out))) : w.heap.size ≤ gb272)); clear HO_79; clear HB; have HO_79 := n0_; have HB := n1_; have BK272 := n2_; have GW272 := n3_; have GE272 := n4_; clear n0_ n1_ n2_ n3_ n4_; clear hb hbox hg; have hcz43_0 : w42.cell? ⟨gb272, 0, none⟩ = some (.string (⟨#[]⟩ : ByteArray)) := (blk_cell BK272.out 0).trans rfl; have hcz43_1 : w42.cell? ⟨gb272, 1, none⟩ = some (.string (⟨#[]⟩ : ByteArray)) := (blk_cell BK272.out 1).trans rfl; have hfz43_0 := blk_frozen BK272.out 0; have hfz43_1 := blk_frozen BK272.out 1))
                              have n0_ : Aside0 (Kd.R k29 29 ((w42.setCell ⟨gb272, 0, none⟩ (.string ((rd_T29 y267 x81_2).f0))).setCell ⟨gb272, 1, none⟩ (.string ((rd_T29 y267 x81_2).f1))) w.heap.size (fun k_ => k_ ≠ gb272) (.slice (some ad271) y267.length co26) y267) := ⟨by (with_reducible repeat (first | apply Kd.R_alloc | apply Kd.R_drewN | apply Kd.R_drew)); exact Kd.R_mono (Kd.R_far (p := ⟨gb272, 1, none⟩) (Kd.R_far (p := ⟨gb272, 0, none⟩) (Kd.R_mono HO_79.out (fun k_ hk => (⟨hk, hk.2⟩ : _ ∧ k_ ≠ gb272))) (fun _ hk => hk.2) (.string ((rd_T29 y267 x81_2).f0))) (fun _ hk => hk.2) (.string ((rd_T29 y267 x81_2).f1))) (fun _ hk => hk.1.2)⟩
                              have n1_ : Aside0 (((w42.setCell ⟨gb272, 0, none⟩ (.string ((rd_T29 y267 x81_2).f0))).setCell ⟨gb272, 1, none⟩ (.string ((rd_T29 y267 x81_2).f1))).heap[gb272]? = some (.cells #[.string ((rd_T29 y267 x81_2).f0), .string ((rd_T29 y267 x81_2).f1)] 29 (0, 0))) := ⟨by (with_reducible repeat (first | refine blk_drewN ?_ _ | refine blk_drew ?_ | refine blk_alloc ?_ _)); refine blk_put (cs := #[.string ((rd_T29 y267 x81_2).f0), .string (⟨#[]⟩ : ByteArray)]) ?_ 1 _ rfl; (with_reducible repeat (first | refine blk_drewN ?_ _ | refine blk_drew ?_ | refine blk_alloc ?_ _)); refine blk_put (cs := #[.string (⟨#[]⟩ : ByteArray), .string (⟨#[]⟩ : ByteArray)]) ?_ 0 _ rfl; (with_reducible repeat (first | refine blk_drewN ?_ _ | refine blk_drew ?_ | refine blk_alloc ?_ _)); exact BK272.out⟩
                              have n2_ : Aside0 (Below w.heap.size w ((w42.setCell ⟨gb272, 0, none⟩ (.string ((rd_T29 y267 x81_2).f0))).setCell ⟨gb272, 1, none⟩ (.string ((rd_T29 y267 x81_2).f1)))) := ⟨by repeat (first | (with_reducible first | exact HB.out | apply below_alloc | apply pw_below_drewN | apply below_drew1 | refine below_set ?_ GE272.out) | exact HB.out)⟩
                              (try clear HO_79)
                              (try clear BK272)
                              (try clear HB)
                              generalize ((w42.setCell ⟨gb272, 0, none⟩ (.string ((rd_T29 y267 x81_2).f0))).setCell ⟨gb272, 1, none⟩ (.string ((rd_T29 y267 x81_2).f1))) = w44 at n0_ n1_ n2_ ⊢
                              have HO_79 := n0_
                              have BK272 := n1_
                              have HB := n2_
                              clear n0_ n1_ n2_
                              have n0_ := Aside0.mk (Kd.R_drew HO_79.out)
                              have n1_ := Aside0.mk (blk_drew BK272.out)
                              have n2_ := Aside0.mk (below_drew1 HB.out)
                              clear HO_79
                              clear BK272
                              clear HB
                              have HO_79 := n0_
                              have BK272 := n1_
                              have HB := n2_
                              clear n0_ n1_ n2_
                              refine start_ (n := 24) (S := fun w' => w'.cell? ⟨gb272, 0, none⟩ = some (.string ((rd_T29 y267 x81_2).f0)) ∧ w'.cell? ⟨gb272, 1, none⟩ = some (.string ((rd_T29 y267 x81_2).f1))) (ds := []) #[false, false, false, false, false, false, false, false, false, false, false, false, false, false, false, false, false, false, false, false, false, false, false, false] (by kernel_rfl) rfl rfl ⟨(blk_cell BK272.out 0).trans rfl, (blk_cell BK272.out 1).trans rfl⟩ (fun hHeld => ?_); refine with_tabW certpathlaw08_HostMail.tab7 certpathlaw08_HostMail.bits7 (fun HT_ HW_ => ?_)
                              generalize w44.drew = w45 at HO_79 BK272 HB hHeld ⊢
                              refine pure_ (i := 0) (N := some 85) (v := ?_) (a' := ?_) #[true, false, false, false, false, false, false, false, false, false, false, false, false, false, false, false, false, false, false, false, false, false, false, false] rfl rfl (any_of HT_.out (by kernel_rfl)) (fun _ _ _ h => h) (Or.inl ⟨by rfl, ?_⟩) ?_ ?_
                              rotate_left
                              · intro w'
                                go_simp
                                with_reducible rfl
                              rotate_left
                              · simp only [Act.put, List.setIfInBounds_toArray, List.set_cons_zero, List.set_cons_succ, i64_w, i32_w]
                                rfl
                              refine pure_ (i := 2) (N := some 87) (v := ?_) (a' := ?_) #[true, false, true, false, false, false, false, false, false, false, false, false, false, false, false, false, false, false, false, false, false, false, false, false] rfl rfl (any_of HT_.out (by kernel_rfl)) (fun _ _ _ h => h) (Or.inl ⟨by rfl, ?_⟩) ?_ ?_
                              rotate_left
                              · intro w'
                                go_simp
                                with_reducible rfl
                              rotate_left
                              · simp only [Act.put, List.setIfInBounds_toArray, List.set_cons_zero, List.set_cons_succ, i64_w, i32_w]
                                rfl
                              refine pure_ (i := 5) (N := some 90) (v := ?_) (a' := ?_) #[true, false, true, false, false, true, false, false, false, false, false, false, false, false, false, false, false, false, false, false, false, false, false, false] rfl rfl (any_of HT_.out (by kernel_rfl)) (fun _ _ _ h => h) (Or.inl ⟨by rfl, ?_⟩) ?_ ?_
                              rotate_left
                              · intro w'
                                go_simp
                                with_reducible rfl
                              rotate_left
                              · simp only [Act.put, List.setIfInBounds_toArray, List.set_cons_zero, List.set_cons_succ, i64_w, i32_w]
                                rfl
                              refine pure_ (i := 7) (N := some 92) (v := ?_) (a' := ?_) #[true, false, true, false, false, true, false, true, false, false, false, false, false, false, false, false, false, false, false, false, false, false, false, false] rfl rfl (any_of HT_.out (by kernel_rfl)) (fun _ _ _ h => h) (Or.inl ⟨by rfl, ?_⟩) ?_ ?_
                              rotate_left
                              · intro w'
                                go_simp
                                with_reducible rfl
                              rotate_left
                              · simp only [Act.put, List.setIfInBounds_toArray, List.set_cons_zero, List.set_cons_succ, i64_w, i32_w]
                                rfl
                              refine take_ (i := 1) (N := some 86) (v := ?_) (a' := ?_) #[true, true, true, false, false, true, false, true, false, false, false, false, false, false, false, false, false, false, false, false, false, false, false, false] rfl rfl (take_ofW HT_.out HW_.out (by kernel_rfl)) (fun _ _ _ h => h) (Or.inl ⟨by rfl, ?_⟩) hHeld ?_ ?_
                              rotate_left
                              · rintro w' ⟨s0, s1⟩
                                go_simp
                                with_reducible rfl
                              rotate_left
                              · simp only [Act.put, List.setIfInBounds_toArray, List.set_cons_zero, List.set_cons_succ, i64_w, i32_w]
                                rfl
                              refine take_ (i := 3) (N := some 88) (v := ?_) (a' := ?_) #[true, true, true, true, false, true, false, true, false, false, false, false, false, false, false, false, false, false, false, false, false, false, false, false] rfl rfl (take_ofW HT_.out HW_.out (by kernel_rfl)) (fun _ _ _ h => h) (Or.inl ⟨by rfl, ?_⟩) hHeld ?_ ?_
                              rotate_left
                              · rintro w' ⟨s0, s1⟩
                                go_simp
                                with_reducible rfl
                              rotate_left
                              · simp only [Act.put, List.setIfInBounds_toArray, List.set_cons_zero, List.set_cons_succ, i64_w, i32_w]
                                rfl
                              refine take_ (i := 6) (N := some 91) (v := ?_) (a' := ?_) #[true, true, true, true, false, true, true, true, false, false, false, false, false, false, false, false, false, false, false, false, false, false, false, false] rfl rfl (take_ofW HT_.out HW_.out (by kernel_rfl)) (fun _ _ _ h => h) (Or.inl ⟨by rfl, ?_⟩) hHeld ?_ ?_
                              rotate_left
                              · rintro w' ⟨s0, s1⟩
                                go_simp
                                with_reducible rfl
                              rotate_left
                              · simp only [Act.put, List.setIfInBounds_toArray, List.set_cons_zero, List.set_cons_succ, i64_w, i32_w]
                                rfl
                              refine take_ (i := 8) (N := some 93) (v := ?_) (a' := ?_) #[true, true, true, true, false, true, true, true, true, false, false, false, false, false, false, false, false, false, false, false, false, false, false, false] rfl rfl (take_ofW HT_.out HW_.out (by kernel_rfl)) (fun _ _ _ h => h) (Or.inl ⟨by rfl, ?_⟩) hHeld ?_ ?_
                              rotate_left
                              · rintro w' ⟨s0, s1⟩
                                go_simp
                                with_reducible rfl
                              rotate_left
                              · simp only [Act.put, List.setIfInBounds_toArray, List.set_cons_zero, List.set_cons_succ, i64_w, i32_w]
                                rfl
                              refine one_ (i := 4) (N := some 89) #[true, true, true, true, true, true, true, true, true, false, false, false, false, false, false, false, false, false, false, false, false, false, false, false] rfl rfl (one_of HT_.out (by kernel_rfl)) (by decide) (fun K hK => ?_)
                              refine goes_ Tryd.func24 (by kernel_rfl) rfl #[.string ((rd_T29 y267 x81_2).f0), .string ((rd_T29 y267 x81_2).f1)] (by rfl) rfl rfl (by (try simp only [List.map_toArray, List.map_cons, List.map_nil]); first | done | rfl | (simp only [List.length_drop, List.length_take]; rfl)) ?_
                              with_reducible refine (host_MailMatch.calls k2 ((rd_T29 y267 x81_2).f0) ((rd_T29 y267 x81_2).f1) t273 _ ?side1 A30.out).mono ?_
                              (case side1 => refine Ext.G.step ?_ hG_; repeat (first | (with_reducible first | exact HB.out | apply below_alloc | apply pw_below_drewN | apply below_drew1 | refine below_set ?_ GE272.out) | exact HB.out))
                              rintro e w46 ⟨rfl, hb⟩
                              refine ⟨_, rfl, ?_⟩
                              have n0_ := Aside0.mk (Kd.R_below (by (with_reducible repeat (first | apply Kd.R_alloc | apply Kd.R_drewN | apply Kd.R_drew)); exact HO_79.out) hb)
                              have n1_ := Aside0.mk (blk_below (g := gb272) (o := .cells #[.string ((rd_T29 y267 x81_2).f0), .string ((rd_T29 y267 x81_2).f1)] 29 (0, 0)) (by (with_reducible repeat (first | refine blk_drewN ?_ _ | refine blk_drew ?_ | refine blk_alloc ?_ _)); exact BK272.out) hb)
                              have n2_ := Aside0.mk (below_step (by repeat (first | (with_reducible first | exact HB.out | apply below_alloc | apply pw_below_drewN | apply below_drew1 | refine below_set ?_ GE272.out) | exact HB.out)) hb)
                              clear HO_79
                              clear BK272
                              clear HB
                              have HO_79 := n0_
                              have BK272 := n1_
                              have HB := n2_
                              clear n0_ n1_ n2_
                              (try clear hb)
                              (try clear hb2)
                              (try clear hk)
                              (try clear hi)
                              refine hK.out _ _ ⟨(blk_cell BK272.out 0).trans rfl, (blk_cell BK272.out 1).trans rfl⟩ (fun hHeld => ?_)
                              clear hK K
                              refine norm_ (a' := ?_) ?_ ?_
                              rotate_left
                              · show Act.put _ (some 89) _ = _
                                simp only [Act.put, List.setIfInBounds_toArray, List.set_cons_zero, List.set_cons_succ, i64_w, i32_w]
                                rfl
                              refine one_ (i := 9) (N := some 94) #[true, true, true, true, true, true, true, true, true, true, false, false, false, false, false, false, false, false, false, false, false, false, false, false] rfl rfl (one_of HT_.out (by kernel_rfl)) (by decide) (fun K hK => ?_)
                              refine goes_ Tryd.func25 (by kernel_rfl) rfl #[.string ((rd_T29 y267 x81_2).f0), .string ((rd_T29 y267 x81_2).f1)] (by rfl) rfl rfl (by (try simp only [List.map_toArray, List.map_cons, List.map_nil]); first | done | rfl | (simp only [List.length_drop, List.length_take]; rfl)) ?_
                              with_reducible refine (certpathref07_MailMatch.calls k2 ((rd_T29 y267 x81_2).f0) ((rd_T29 y267 x81_2).f1) t274 _ ?side1 A31.out).mono ?_
                              (case side1 => refine Ext.G.step ?_ hG_; repeat (first | (with_reducible first | exact HB.out | apply below_alloc | apply pw_below_drewN | apply below_drew1 | refine below_set ?_ GE272.out) | exact HB.out))
                              rintro e w47 ⟨rfl, hb⟩
                              refine ⟨_, rfl, ?_⟩
                              have n0_ := Aside0.mk (Kd.R_below (by (with_reducible repeat (first | apply Kd.R_alloc | apply Kd.R_drewN | apply Kd.R_drew)); exact HO_79.out) hb)
                              have n1_ := Aside0.mk (blk_below (g := gb272) (o := .cells #[.string ((rd_T29 y267 x81_2).f0), .string ((rd_T29 y267 x81_2).f1)] 29 (0, 0)) (by (with_reducible repeat (first | refine blk_drewN ?_ _ | refine blk_drew ?_ | refine blk_alloc ?_ _)); exact BK272.out) hb)
                              have n2_ := Aside0.mk (below_step (by repeat (first | (with_reducible first | exact HB.out | apply below_alloc | apply pw_below_drewN | apply below_drew1 | refine below_set ?_ GE272.out) | exact HB.out)) hb)
                              clear HO_79
                              clear BK272
                              clear HB
                              have HO_79 := n0_
                              have BK272 := n1_
                              have HB := n2_
                              clear n0_ n1_ n2_
                              (try clear hb)
                              (try clear hb2)
                              (try clear hk)
                              (try clear hi)
                              refine hK.out _ _ ⟨(blk_cell BK272.out 0).trans rfl, (blk_cell BK272.out 1).trans rfl⟩ (fun hHeld => ?_)
                              clear hK K
                              refine norm_ (a' := ?_) ?_ ?_
                              rotate_left
                              · show Act.put _ (some 94) _ = _
                                simp only [Act.put, List.setIfInBounds_toArray, List.set_cons_zero, List.set_cons_succ, i64_w, i32_w]
                                rfl
                              refine pure_ (i := 10) (N := some 95) (v := ?_) (a' := ?_) #[true, true, true, true, true, true, true, true, true, true, true, false, false, false, false, false, false, false, false, false, false, false, false, false] rfl rfl (any_of HT_.out (by kernel_rfl)) (fun _ _ _ h => h) (Or.inl ⟨by rfl, ?_⟩) ?_ ?_
                              rotate_left
                              · intro w'
                                go_simp
                                with_reducible rfl
                              rotate_left
                              · simp only [Act.put, List.setIfInBounds_toArray, List.set_cons_zero, List.set_cons_succ, i64_w, i32_w]
                                rfl
                              refine pure_ (i := 11) (N := some 96) (v := ?_) (a' := ?_) #[true, true, true, true, true, true, true, true, true, true, true, true, false, false, false, false, false, false, false, false, false, false, false, false] rfl rfl (any_of HT_.out (by kernel_rfl)) (fun _ _ _ h => h) (Or.inl ⟨by rfl, ?_⟩) ?_ ?_
                              rotate_left
                              · intro w'
                                go_simp
                                with_reducible rfl
                              rotate_left
                              · simp only [Act.put, List.setIfInBounds_toArray, List.set_cons_zero, List.set_cons_succ, i64_w, i32_w]
                                rfl
                              refine pure_ (i := 12) (N := some 97) (v := ?_) (a' := ?_) #[true, true, true, true, true, true, true, true, true, true, true, true, true, false, false, false, false, false, false, false, false, false, false, false] rfl rfl (any_of HT_.out (by kernel_rfl)) (fun _ _ _ h => h) (Or.inl ⟨by rfl, ?_⟩) ?_ ?_
                              rotate_left
                              · intro w'
                                go_simp
                                with_reducible rfl
                              rotate_left
                              · simp only [Act.put, List.setIfInBounds_toArray, List.set_cons_zero, List.set_cons_succ, i64_w, i32_w]
                                rfl
                              refine pure_ (i := 14) (N := some 99) (v := ?_) (a' := ?_) #[true, true, true, true, true, true, true, true, true, true, true, true, true, false, true, false, false, false, false, false, false, false, false, false] rfl rfl (any_of HT_.out (by kernel_rfl)) (fun _ _ _ h => h) (Or.inl ⟨by rfl, ?_⟩) ?_ ?_
                              rotate_left
                              · intro w'
                                go_simp
                                with_reducible rfl
                              rotate_left
                              · simp only [Act.put, List.setIfInBounds_toArray, List.set_cons_zero, List.set_cons_succ, i64_w, i32_w]
                                rfl
                              refine pure_ (i := 17) (N := some 102) (v := ?_) (a' := ?_) #[true, true, true, true, true, true, true, true, true, true, true, true, true, false, true, false, false, true, false, false, false, false, false, false] rfl rfl (any_of HT_.out (by kernel_rfl)) (fun _ _ _ h => h) (Or.inl ⟨by rfl, ?_⟩) ?_ ?_
                              rotate_left
                              · intro w'
                                go_simp
                                with_reducible rfl
                              rotate_left
                              · simp only [Act.put, List.setIfInBounds_toArray, List.set_cons_zero, List.set_cons_succ, i64_w, i32_w]
                                rfl
                              refine pure_ (i := 19) (N := some 104) (v := ?_) (a' := ?_) #[true, true, true, true, true, true, true, true, true, true, true, true, true, false, true, false, false, true, false, true, false, false, false, false] rfl rfl (any_of HT_.out (by kernel_rfl)) (fun _ _ _ h => h) (Or.inl ⟨by rfl, ?_⟩) ?_ ?_
                              rotate_left
                              · intro w'
                                go_simp
                                with_reducible rfl
                              rotate_left
                              · simp only [Act.put, List.setIfInBounds_toArray, List.set_cons_zero, List.set_cons_succ, i64_w, i32_w]
                                rfl
                              refine take_ (i := 13) (N := some 98) (v := ?_) (a' := ?_) #[true, true, true, true, true, true, true, true, true, true, true, true, true, true, true, false, false, true, false, true, false, false, false, false] rfl rfl (take_ofW HT_.out HW_.out (by kernel_rfl)) (fun _ _ _ h => h) (Or.inl ⟨by rfl, ?_⟩) hHeld ?_ ?_
                              rotate_left
                              · rintro w' ⟨s0, s1⟩
                                go_simp
                                with_reducible rfl
                              rotate_left
                              · simp only [Act.put, List.setIfInBounds_toArray, List.set_cons_zero, List.set_cons_succ, i64_w, i32_w]
                                rfl
                              refine take_ (i := 15) (N := some 100) (v := ?_) (a' := ?_) #[true, true, true, true, true, true, true, true, true, true, true, true, true, true, true, true, false, true, false, true, false, false, false, false] rfl rfl (take_ofW HT_.out HW_.out (by kernel_rfl)) (fun _ _ _ h => h) (Or.inl ⟨by rfl, ?_⟩) hHeld ?_ ?_
                              rotate_left
                              · rintro w' ⟨s0, s1⟩
                                go_simp
                                with_reducible rfl
                              rotate_left
                              · simp only [Act.put, List.setIfInBounds_toArray, List.set_cons_zero, List.set_cons_succ, i64_w, i32_w]
                                rfl
                              refine take_ (i := 18) (N := some 103) (v := ?_) (a' := ?_) #[true, true, true, true, true, true, true, true, true, true, true, true, true, true, true, true, false, true, true, true, false, false, false, false] rfl rfl (take_ofW HT_.out HW_.out (by kernel_rfl)) (fun _ _ _ h => h) (Or.inl ⟨by rfl, ?_⟩) hHeld ?_ ?_
                              rotate_left
                              · rintro w' ⟨s0, s1⟩
                                go_simp
                                with_reducible rfl
                              rotate_left
                              · simp only [Act.put, List.setIfInBounds_toArray, List.set_cons_zero, List.set_cons_succ, i64_w, i32_w]
                                rfl
                              refine take_ (i := 20) (N := some 105) (v := ?_) (a' := ?_) #[true, true, true, true, true, true, true, true, true, true, true, true, true, true, true, true, false, true, true, true, true, false, false, false] rfl rfl (take_ofW HT_.out HW_.out (by kernel_rfl)) (fun _ _ _ h => h) (Or.inl ⟨by rfl, ?_⟩) hHeld ?_ ?_
                              rotate_left
                              · rintro w' ⟨s0, s1⟩
                                go_simp
                                with_reducible rfl
                              rotate_left
                              · simp only [Act.put, List.setIfInBounds_toArray, List.set_cons_zero, List.set_cons_succ, i64_w, i32_w]
                                rfl
                              refine one_ (i := 16) (N := some 101) #[true, true, true, true, true, true, true, true, true, true, true, true, true, true, true, true, true, true, true, true, true, false, false, false] rfl rfl (one_of HT_.out (by kernel_rfl)) (by decide) (fun K hK => ?_)
                              refine goes_ Tryd.func26 (by kernel_rfl) rfl #[.string ((rd_T29 y267 x81_2).f0), .string ((rd_T29 y267 x81_2).f1)] (by rfl) rfl rfl (by (try simp only [List.map_toArray, List.map_cons, List.map_nil]); first | done | rfl | (simp only [List.length_drop, List.length_take]; rfl)) ?_
                              with_reducible refine (host_MailWithin.calls k2 ((rd_T29 y267 x81_2).f0) ((rd_T29 y267 x81_2).f1) t275 _ ?side1 A39.out).mono ?_
                              (case side1 => refine Ext.G.step ?_ hG_; repeat (first | (with_reducible first | exact HB.out | apply below_alloc | apply pw_below_drewN | apply below_drew1 | refine below_set ?_ GE272.out) | exact HB.out))
                              rintro e w48 ⟨rfl, hb⟩
                              refine ⟨_, rfl, ?_⟩
                              have n0_ := Aside0.mk (Kd.R_below (by (with_reducible repeat (first | apply Kd.R_alloc | apply Kd.R_drewN | apply Kd.R_drew)); exact HO_79.out) hb)
                              have n1_ := Aside0.mk (blk_below (g := gb272) (o := .cells #[.string ((rd_T29 y267 x81_2).f0), .string ((rd_T29 y267 x81_2).f1)] 29 (0, 0)) (by (with_reducible repeat (first | refine blk_drewN ?_ _ | refine blk_drew ?_ | refine blk_alloc ?_ _)); exact BK272.out) hb)
                              have n2_ := Aside0.mk (below_step (by repeat (first | (with_reducible first | exact HB.out | apply below_alloc | apply pw_below_drewN | apply below_drew1 | refine below_set ?_ GE272.out) | exact HB.out)) hb)
                              clear HO_79
                              clear BK272
                              clear HB
                              have HO_79 := n0_
                              have BK272 := n1_
                              have HB := n2_
                              clear n0_ n1_ n2_
                              (try clear hb)
                              (try clear hb2)
                              (try clear hk)
                              (try clear hi)
                              refine hK.out _ _ ⟨(blk_cell BK272.out 0).trans rfl, (blk_cell BK272.out 1).trans rfl⟩ (fun hHeld => ?_)
                              clear hK K
                              refine norm_ (a' := ?_) ?_ ?_
                              rotate_left
                              · show Act.put _ (some 101) _ = _
                                simp only [Act.put, List.setIfInBounds_toArray, List.set_cons_zero, List.set_cons_succ, i64_w, i32_w]
                                rfl
                              refine one_ (i := 21) (N := some 106) #[true, true, true, true, true, true, true, true, true, true, true, true, true, true, true, true, true, true, true, true, true, true, false, false] rfl rfl (one_of HT_.out (by kernel_rfl)) (by decide) (fun K hK => ?_)
                              refine goes_ Tryd.func27 (by kernel_rfl) rfl #[.string ((rd_T29 y267 x81_2).f0), .string ((rd_T29 y267 x81_2).f1)] (by rfl) rfl rfl (by (try simp only [List.map_toArray, List.map_cons, List.map_nil]); first | done | rfl | (simp only [List.length_drop, List.length_take]; rfl)) ?_
                              with_reducible refine (certpathref07_MailWithin.calls k2 ((rd_T29 y267 x81_2).f0) ((rd_T29 y267 x81_2).f1) t276 _ ?side1 A40.out).mono ?_
                              (case side1 => refine Ext.G.step ?_ hG_; repeat (first | (with_reducible first | exact HB.out | apply below_alloc | apply pw_below_drewN | apply below_drew1 | refine below_set ?_ GE272.out) | exact HB.out))
                              rintro e w49 ⟨rfl, hb⟩
                              refine ⟨_, rfl, ?_⟩
                              have n0_ := Aside0.mk (Kd.R_below (by (with_reducible repeat (first | apply Kd.R_alloc | apply Kd.R_drewN | apply Kd.R_drew)); exact HO_79.out) hb)
                              have n1_ := Aside0.mk (blk_below (g := gb272) (o := .cells #[.string ((rd_T29 y267 x81_2).f0), .string ((rd_T29 y267 x81_2).f1)] 29 (0, 0)) (by (with_reducible repeat (first | refine blk_drewN ?_ _ | refine blk_drew ?_ | refine blk_alloc ?_ _)); exact BK272.out) hb)
                              have n2_ := Aside0.mk (below_step (by repeat (first | (with_reducible first | exact HB.out | apply below_alloc | apply pw_below_drewN | apply below_drew1 | refine below_set ?_ GE272.out) | exact HB.out)) hb)
                              clear HO_79
                              clear BK272
                              clear HB
                              have HO_79 := n0_
                              have BK272 := n1_
                              have HB := n2_
                              clear n0_ n1_ n2_
                              (try clear hb)
                              (try clear hb2)
                              (try clear hk)
                              (try clear hi)
                              refine hK.out _ _ ⟨(blk_cell BK272.out 0).trans rfl, (blk_cell BK272.out 1).trans rfl⟩ (fun hHeld => ?_)
                              clear hK K
                              refine norm_ (a' := ?_) ?_ ?_
                              rotate_left
                              · show Act.put _ (some 106) _ = _
                                simp only [Act.put, List.setIfInBounds_toArray, List.set_cons_zero, List.set_cons_succ, i64_w, i32_w]
                                rfl
                              refine pure_ (i := 22) (N := some 107) (v := ?_) (a' := ?_) #[true, true, true, true, true, true, true, true, true, true, true, true, true, true, true, true, true, true, true, true, true, true, true, false] rfl rfl (any_of HT_.out (by kernel_rfl)) (fun _ _ _ h => h) (Or.inl ⟨by rfl, ?_⟩) ?_ ?_
                              rotate_left
                              · intro w'
                                go_simp
                                with_reducible rfl
                              rotate_left
                              · simp only [Act.put, List.setIfInBounds_toArray, List.set_cons_zero, List.set_cons_succ, i64_w, i32_w]
                                rfl
                              refine pure_ (i := 23) (N := some 108) (v := ?_) (a' := ?_) #[true, true, true, true, true, true, true, true, true, true, true, true, true, true, true, true, true, true, true, true, true, true, true, true] rfl rfl (any_of HT_.out (by kernel_rfl)) (fun _ _ _ h => h) (Or.inl ⟨by rfl, ?_⟩) ?_ ?_
                              rotate_left
                              · intro w'
                                go_simp
                                with_reducible rfl
                              rotate_left
                              · simp only [Act.put, List.setIfInBounds_toArray, List.set_cons_zero, List.set_cons_succ, i64_w, i32_w]
                                rfl
                              refine done_ (done_of HT_.out (by kernel_rfl)) ?_
                              try go_wp2
                              go_ret
                              exact ⟨by first | rfl | (simp [errW_none, errW_some] <;> rfl) | (simp [*, errW_none, errW_some] <;> rfl), by repeat (first | (with_reducible first | exact HB.out | apply below_alloc | apply pw_below_drewN | apply below_drew1 | refine below_set ?_ GE272.out) | exact HB.out)⟩
                            · rw [if_neg c41] at H
                              have c41b0 : (t275 != t276) = false := by simpa using c41
                              (try (have c41b1 : decide (t275 = t276) = true := by simpa using c41))
                              (try (have c41b2 : (t275 == t276) = true := by simpa using c41))
                              clear c41
                              have H' := Aside0.mk H
                              clear H
                              have p271 : 0 ≤ (x81_2 : Int) := of_decide_eq_true (by first | (with_reducible assumption) | assumption)
                              have q271 : x81_2 < (y267.length : Int) := of_decide_eq_true (by first | (with_reducible assumption) | assumption)
                              obtain ⟨ad271, e271, hx271_0, hx271_1⟩ := at_T29 (Kd.R_reads' HO_79.out).2.2 x81_2 p271 q271
                              cases e271
                              replace p271 := eq_true p271
                              replace q271 := eq_true q271
                              try go_wp2_with (first | ((with_reducible refine gate_dst (N := 12) rfl ?_); (try (refine gate_guard (by rfl) ?_; dsimp only)); refine box_event ?hg (N := 12) ?hd (cs := #[.string (⟨#[]⟩ : ByteArray), .string (⟨#[]⟩ : ByteArray)]) (t := 29) ?hr ?_; (case hd => rfl); (case hg => rfl); (case hr => first | (go_simp; done) | (go_simp; rfl)); intro gb272 hg w50 hbox hb; have n0_ := Aside0.mk (Kd.R_below (Kd.R_elderB (by (with_reducible repeat (first | apply Kd.R_alloc | apply Kd.R_drewN | apply Kd.R_drew)); exact HO_79.out) gb272 (Nat.le_of_eq hg.symm)) hb); have n1_ := Aside0.mk (below_step (by repeat (first | (with_reducible first | exact HB.out | apply below_alloc | apply pw_below_drewN | apply below_drew1) | exact HB.out)) hb); have n2_ := Aside0.mk (hbox); have n3_ := Aside0.mk ((by rw [hg]; exact (below_size (by repeat (first | (with_reducible first | exact HB.out | apply below_alloc | apply pw_below_drewN | apply below_drew1) | exact HB.out))) : w.heap.size ≤ gb272)); have n4_ := Aside0.mk ((by rw [hg]; exact (below_size (by repeat (first | (with_reducible first | exact HB.out | apply below_alloc | apply pw_below_drewN | apply below_drew1) | exact HB.out))) : w.heap.size ≤ gb272)); clear HO_79; clear HB; have HO_79 := n0_; have HB := n1_; have BK272 := n2_; have GW272 := n3_; have GE272 := n4_; clear n0_ n1_ n2_ n3_ n4_; clear hb hbox hg; have hcz51_0 : w50.cell? ⟨gb272, 0, none⟩ = some (.string (⟨#[]⟩ : ByteArray)) := (blk_cell BK272.out 0).trans rfl; have hcz51_1 : w50.cell? ⟨gb272, 1, none⟩ = some (.string (⟨#[]⟩ : ByteArray)) := (blk_cell BK272.out 1).trans rfl; have hfz51_0 := blk_frozen BK272.out 0; have hfz51_1 := blk_frozen BK272.out 1))
                              have n0_ : Aside0 (Kd.R k29 29 ((w50.setCell ⟨gb272, 0, none⟩ (.string ((rd_T29 y267 x81_2).f0))).setCell ⟨gb272, 1, none⟩ (.string ((rd_T29 y267 x81_2).f1))) w.heap.size (fun k_ => k_ ≠ gb272) (.slice (some ad271) y267.length co26) y267) := ⟨by (with_reducible repeat (first | apply Kd.R_alloc | apply Kd.R_drewN | apply Kd.R_drew)); exact Kd.R_mono (Kd.R_far (p := ⟨gb272, 1, none⟩) (Kd.R_far (p := ⟨gb272, 0, none⟩) (Kd.R_mono HO_79.out (fun k_ hk => (⟨hk, hk.2⟩ : _ ∧ k_ ≠ gb272))) (fun _ hk => hk.2) (.string ((rd_T29 y267 x81_2).f0))) (fun _ hk => hk.2) (.string ((rd_T29 y267 x81_2).f1))) (fun _ hk => hk.1.2)⟩
                              have n1_ : Aside0 (((w50.setCell ⟨gb272, 0, none⟩ (.string ((rd_T29 y267 x81_2).f0))).setCell ⟨gb272, 1, none⟩ (.string ((rd_T29 y267 x81_2).f1))).heap[gb272]? = some (.cells #[.string ((rd_T29 y267 x81_2).f0), .string ((rd_T29 y267 x81_2).f1)] 29 (0, 0))) := ⟨by (with_reducible repeat (first | refine blk_drewN ?_ _ | refine blk_drew ?_ | refine blk_alloc ?_ _)); refine blk_put (cs := #[.string ((rd_T29 y267 x81_2).f0), .string (⟨#[]⟩ : ByteArray)]) ?_ 1 _ rfl; (with_reducible repeat (first | refine blk_drewN ?_ _ | refine blk_drew ?_ | refine blk_alloc ?_ _)); refine blk_put (cs := #[.string (⟨#[]⟩ : ByteArray), .string (⟨#[]⟩ : ByteArray)]) ?_ 0 _ rfl; (with_reducible repeat (first | refine blk_drewN ?_ _ | refine blk_drew ?_ | refine blk_alloc ?_ _)); exact BK272.out⟩
                              have n2_ : Aside0 (Below w.heap.size w ((w50.setCell ⟨gb272, 0, none⟩ (.string ((rd_T29 y267 x81_2).f0))).setCell ⟨gb272, 1, none⟩ (.string ((rd_T29 y267 x81_2).f1)))) := ⟨by repeat (first | (with_reducible first | exact HB.out | apply below_alloc | apply pw_below_drewN | apply below_drew1 | refine below_set ?_ GE272.out) | exact HB.out)⟩
                              (try clear HO_79)
                              (try clear BK272)
                              (try clear HB)
                              generalize ((w50.setCell ⟨gb272, 0, none⟩ (.string ((rd_T29 y267 x81_2).f0))).setCell ⟨gb272, 1, none⟩ (.string ((rd_T29 y267 x81_2).f1))) = w52 at n0_ n1_ n2_ ⊢
                              have HO_79 := n0_
                              have BK272 := n1_
                              have HB := n2_
                              clear n0_ n1_ n2_
                              have n0_ := Aside0.mk (Kd.R_drew HO_79.out)
                              have n1_ := Aside0.mk (blk_drew BK272.out)
                              have n2_ := Aside0.mk (below_drew1 HB.out)
                              clear HO_79
                              clear BK272
                              clear HB
                              have HO_79 := n0_
                              have BK272 := n1_
                              have HB := n2_
                              clear n0_ n1_ n2_
                              refine start_ (n := 24) (S := fun w' => w'.cell? ⟨gb272, 0, none⟩ = some (.string ((rd_T29 y267 x81_2).f0)) ∧ w'.cell? ⟨gb272, 1, none⟩ = some (.string ((rd_T29 y267 x81_2).f1))) (ds := []) #[false, false, false, false, false, false, false, false, false, false, false, false, false, false, false, false, false, false, false, false, false, false, false, false] (by kernel_rfl) rfl rfl ⟨(blk_cell BK272.out 0).trans rfl, (blk_cell BK272.out 1).trans rfl⟩ (fun hHeld => ?_); refine with_tabW certpathlaw08_HostMail.tab7 certpathlaw08_HostMail.bits7 (fun HT_ HW_ => ?_)
                              generalize w52.drew = w53 at HO_79 BK272 HB hHeld ⊢
                              refine pure_ (i := 0) (N := some 85) (v := ?_) (a' := ?_) #[true, false, false, false, false, false, false, false, false, false, false, false, false, false, false, false, false, false, false, false, false, false, false, false] rfl rfl (any_of HT_.out (by kernel_rfl)) (fun _ _ _ h => h) (Or.inl ⟨by rfl, ?_⟩) ?_ ?_
                              rotate_left
                              · intro w'
                                go_simp
                                with_reducible rfl
                              rotate_left
                              · simp only [Act.put, List.setIfInBounds_toArray, List.set_cons_zero, List.set_cons_succ, i64_w, i32_w]
                                rfl
                              refine pure_ (i := 2) (N := some 87) (v := ?_) (a' := ?_) #[true, false, true, false, false, false, false, false, false, false, false, false, false, false, false, false, false, false, false, false, false, false, false, false] rfl rfl (any_of HT_.out (by kernel_rfl)) (fun _ _ _ h => h) (Or.inl ⟨by rfl, ?_⟩) ?_ ?_
                              rotate_left
                              · intro w'
                                go_simp
                                with_reducible rfl
                              rotate_left
                              · simp only [Act.put, List.setIfInBounds_toArray, List.set_cons_zero, List.set_cons_succ, i64_w, i32_w]
                                rfl
                              refine pure_ (i := 5) (N := some 90) (v := ?_) (a' := ?_) #[true, false, true, false, false, true, false, false, false, false, false, false, false, false, false, false, false, false, false, false, false, false, false, false] rfl rfl (any_of HT_.out (by kernel_rfl)) (fun _ _ _ h => h) (Or.inl ⟨by rfl, ?_⟩) ?_ ?_
                              rotate_left
                              · intro w'
                                go_simp
                                with_reducible rfl
                              rotate_left
                              · simp only [Act.put, List.setIfInBounds_toArray, List.set_cons_zero, List.set_cons_succ, i64_w, i32_w]
                                rfl
                              refine pure_ (i := 7) (N := some 92) (v := ?_) (a' := ?_) #[true, false, true, false, false, true, false, true, false, false, false, false, false, false, false, false, false, false, false, false, false, false, false, false] rfl rfl (any_of HT_.out (by kernel_rfl)) (fun _ _ _ h => h) (Or.inl ⟨by rfl, ?_⟩) ?_ ?_
                              rotate_left
                              · intro w'
                                go_simp
                                with_reducible rfl
                              rotate_left
                              · simp only [Act.put, List.setIfInBounds_toArray, List.set_cons_zero, List.set_cons_succ, i64_w, i32_w]
                                rfl
                              refine take_ (i := 1) (N := some 86) (v := ?_) (a' := ?_) #[true, true, true, false, false, true, false, true, false, false, false, false, false, false, false, false, false, false, false, false, false, false, false, false] rfl rfl (take_ofW HT_.out HW_.out (by kernel_rfl)) (fun _ _ _ h => h) (Or.inl ⟨by rfl, ?_⟩) hHeld ?_ ?_
                              rotate_left
                              · rintro w' ⟨s0, s1⟩
                                go_simp
                                with_reducible rfl
                              rotate_left
                              · simp only [Act.put, List.setIfInBounds_toArray, List.set_cons_zero, List.set_cons_succ, i64_w, i32_w]
                                rfl
                              refine take_ (i := 3) (N := some 88) (v := ?_) (a' := ?_) #[true, true, true, true, false, true, false, true, false, false, false, false, false, false, false, false, false, false, false, false, false, false, false, false] rfl rfl (take_ofW HT_.out HW_.out (by kernel_rfl)) (fun _ _ _ h => h) (Or.inl ⟨by rfl, ?_⟩) hHeld ?_ ?_
                              rotate_left
                              · rintro w' ⟨s0, s1⟩
                                go_simp
                                with_reducible rfl
                              rotate_left
                              · simp only [Act.put, List.setIfInBounds_toArray, List.set_cons_zero, List.set_cons_succ, i64_w, i32_w]
                                rfl
                              refine take_ (i := 6) (N := some 91) (v := ?_) (a' := ?_) #[true, true, true, true, false, true, true, true, false, false, false, false, false, false, false, false, false, false, false, false, false, false, false, false] rfl rfl (take_ofW HT_.out HW_.out (by kernel_rfl)) (fun _ _ _ h => h) (Or.inl ⟨by rfl, ?_⟩) hHeld ?_ ?_
                              rotate_left
                              · rintro w' ⟨s0, s1⟩
                                go_simp
                                with_reducible rfl
                              rotate_left
                              · simp only [Act.put, List.setIfInBounds_toArray, List.set_cons_zero, List.set_cons_succ, i64_w, i32_w]
                                rfl
                              refine take_ (i := 8) (N := some 93) (v := ?_) (a' := ?_) #[true, true, true, true, false, true, true, true, true, false, false, false, false, false, false, false, false, false, false, false, false, false, false, false] rfl rfl (take_ofW HT_.out HW_.out (by kernel_rfl)) (fun _ _ _ h => h) (Or.inl ⟨by rfl, ?_⟩) hHeld ?_ ?_
                              rotate_left
                              · rintro w' ⟨s0, s1⟩
                                go_simp
                                with_reducible rfl
                              rotate_left
                              · simp only [Act.put, List.setIfInBounds_toArray, List.set_cons_zero, List.set_cons_succ, i64_w, i32_w]
                                rfl
                              refine one_ (i := 4) (N := some 89) #[true, true, true, true, true, true, true, true, true, false, false, false, false, false, false, false, false, false, false, false, false, false, false, false] rfl rfl (one_of HT_.out (by kernel_rfl)) (by decide) (fun K hK => ?_)
                              refine goes_ Tryd.func24 (by kernel_rfl) rfl #[.string ((rd_T29 y267 x81_2).f0), .string ((rd_T29 y267 x81_2).f1)] (by rfl) rfl rfl (by (try simp only [List.map_toArray, List.map_cons, List.map_nil]); first | done | rfl | (simp only [List.length_drop, List.length_take]; rfl)) ?_
                              with_reducible refine (host_MailMatch.calls k2 ((rd_T29 y267 x81_2).f0) ((rd_T29 y267 x81_2).f1) t273 _ ?side1 A30.out).mono ?_
                              (case side1 => refine Ext.G.step ?_ hG_; repeat (first | (with_reducible first | exact HB.out | apply below_alloc | apply pw_below_drewN | apply below_drew1 | refine below_set ?_ GE272.out) | exact HB.out))
                              rintro e w54 ⟨rfl, hb⟩
                              refine ⟨_, rfl, ?_⟩
                              have n0_ := Aside0.mk (Kd.R_below (by (with_reducible repeat (first | apply Kd.R_alloc | apply Kd.R_drewN | apply Kd.R_drew)); exact HO_79.out) hb)
                              have n1_ := Aside0.mk (blk_below (g := gb272) (o := .cells #[.string ((rd_T29 y267 x81_2).f0), .string ((rd_T29 y267 x81_2).f1)] 29 (0, 0)) (by (with_reducible repeat (first | refine blk_drewN ?_ _ | refine blk_drew ?_ | refine blk_alloc ?_ _)); exact BK272.out) hb)
                              have n2_ := Aside0.mk (below_step (by repeat (first | (with_reducible first | exact HB.out | apply below_alloc | apply pw_below_drewN | apply below_drew1 | refine below_set ?_ GE272.out) | exact HB.out)) hb)
                              clear HO_79
                              clear BK272
                              clear HB
                              have HO_79 := n0_
                              have BK272 := n1_
                              have HB := n2_
                              clear n0_ n1_ n2_
                              (try clear hb)
                              (try clear hb2)
                              (try clear hk)
                              (try clear hi)
                              refine hK.out _ _ ⟨(blk_cell BK272.out 0).trans rfl, (blk_cell BK272.out 1).trans rfl⟩ (fun hHeld => ?_)
                              clear hK K
                              refine norm_ (a' := ?_) ?_ ?_
                              rotate_left
                              · show Act.put _ (some 89) _ = _
                                simp only [Act.put, List.setIfInBounds_toArray, List.set_cons_zero, List.set_cons_succ, i64_w, i32_w]
                                rfl
                              refine one_ (i := 9) (N := some 94) #[true, true, true, true, true, true, true, true, true, true, false, false, false, false, false, false, false, false, false, false, false, false, false, false] rfl rfl (one_of HT_.out (by kernel_rfl)) (by decide) (fun K hK => ?_)
                              refine goes_ Tryd.func25 (by kernel_rfl) rfl #[.string ((rd_T29 y267 x81_2).f0), .string ((rd_T29 y267 x81_2).f1)] (by rfl) rfl rfl (by (try simp only [List.map_toArray, List.map_cons, List.map_nil]); first | done | rfl | (simp only [List.length_drop, List.length_take]; rfl)) ?_
                              with_reducible refine (certpathref07_MailMatch.calls k2 ((rd_T29 y267 x81_2).f0) ((rd_T29 y267 x81_2).f1) t274 _ ?side1 A31.out).mono ?_
                              (case side1 => refine Ext.G.step ?_ hG_; repeat (first | (with_reducible first | exact HB.out | apply below_alloc | apply pw_below_drewN | apply below_drew1 | refine below_set ?_ GE272.out) | exact HB.out))
                              rintro e w55 ⟨rfl, hb⟩
                              refine ⟨_, rfl, ?_⟩
                              have n0_ := Aside0.mk (Kd.R_below (by (with_reducible repeat (first | apply Kd.R_alloc | apply Kd.R_drewN | apply Kd.R_drew)); exact HO_79.out) hb)
                              have n1_ := Aside0.mk (blk_below (g := gb272) (o := .cells #[.string ((rd_T29 y267 x81_2).f0), .string ((rd_T29 y267 x81_2).f1)] 29 (0, 0)) (by (with_reducible repeat (first | refine blk_drewN ?_ _ | refine blk_drew ?_ | refine blk_alloc ?_ _)); exact BK272.out) hb)
                              have n2_ := Aside0.mk (below_step (by repeat (first | (with_reducible first | exact HB.out | apply below_alloc | apply pw_below_drewN | apply below_drew1 | refine below_set ?_ GE272.out) | exact HB.out)) hb)
                              clear HO_79
                              clear BK272
                              clear HB
                              have HO_79 := n0_
                              have BK272 := n1_
                              have HB := n2_
                              clear n0_ n1_ n2_
                              (try clear hb)
                              (try clear hb2)
                              (try clear hk)
                              (try clear hi)
                              refine hK.out _ _ ⟨(blk_cell BK272.out 0).trans rfl, (blk_cell BK272.out 1).trans rfl⟩ (fun hHeld => ?_)
                              clear hK K
                              refine norm_ (a' := ?_) ?_ ?_
                              rotate_left
                              · show Act.put _ (some 94) _ = _
                                simp only [Act.put, List.setIfInBounds_toArray, List.set_cons_zero, List.set_cons_succ, i64_w, i32_w]
                                rfl
                              refine pure_ (i := 10) (N := some 95) (v := ?_) (a' := ?_) #[true, true, true, true, true, true, true, true, true, true, true, false, false, false, false, false, false, false, false, false, false, false, false, false] rfl rfl (any_of HT_.out (by kernel_rfl)) (fun _ _ _ h => h) (Or.inl ⟨by rfl, ?_⟩) ?_ ?_
                              rotate_left
                              · intro w'
                                go_simp
                                with_reducible rfl
                              rotate_left
                              · simp only [Act.put, List.setIfInBounds_toArray, List.set_cons_zero, List.set_cons_succ, i64_w, i32_w]
                                rfl
                              refine pure_ (i := 11) (N := some 96) (v := ?_) (a' := ?_) #[true, true, true, true, true, true, true, true, true, true, true, true, false, false, false, false, false, false, false, false, false, false, false, false] rfl rfl (any_of HT_.out (by kernel_rfl)) (fun _ _ _ h => h) (Or.inl ⟨by rfl, ?_⟩) ?_ ?_
                              rotate_left
                              · intro w'
                                go_simp
                                with_reducible rfl
                              rotate_left
                              · simp only [Act.put, List.setIfInBounds_toArray, List.set_cons_zero, List.set_cons_succ, i64_w, i32_w]
                                rfl
                              refine pure_ (i := 12) (N := some 97) (v := ?_) (a' := ?_) #[true, true, true, true, true, true, true, true, true, true, true, true, true, false, false, false, false, false, false, false, false, false, false, false] rfl rfl (any_of HT_.out (by kernel_rfl)) (fun _ _ _ h => h) (Or.inl ⟨by rfl, ?_⟩) ?_ ?_
                              rotate_left
                              · intro w'
                                go_simp
                                with_reducible rfl
                              rotate_left
                              · simp only [Act.put, List.setIfInBounds_toArray, List.set_cons_zero, List.set_cons_succ, i64_w, i32_w]
                                rfl
                              refine pure_ (i := 14) (N := some 99) (v := ?_) (a' := ?_) #[true, true, true, true, true, true, true, true, true, true, true, true, true, false, true, false, false, false, false, false, false, false, false, false] rfl rfl (any_of HT_.out (by kernel_rfl)) (fun _ _ _ h => h) (Or.inl ⟨by rfl, ?_⟩) ?_ ?_
                              rotate_left
                              · intro w'
                                go_simp
                                with_reducible rfl
                              rotate_left
                              · simp only [Act.put, List.setIfInBounds_toArray, List.set_cons_zero, List.set_cons_succ, i64_w, i32_w]
                                rfl
                              refine pure_ (i := 17) (N := some 102) (v := ?_) (a' := ?_) #[true, true, true, true, true, true, true, true, true, true, true, true, true, false, true, false, false, true, false, false, false, false, false, false] rfl rfl (any_of HT_.out (by kernel_rfl)) (fun _ _ _ h => h) (Or.inl ⟨by rfl, ?_⟩) ?_ ?_
                              rotate_left
                              · intro w'
                                go_simp
                                with_reducible rfl
                              rotate_left
                              · simp only [Act.put, List.setIfInBounds_toArray, List.set_cons_zero, List.set_cons_succ, i64_w, i32_w]
                                rfl
                              refine pure_ (i := 19) (N := some 104) (v := ?_) (a' := ?_) #[true, true, true, true, true, true, true, true, true, true, true, true, true, false, true, false, false, true, false, true, false, false, false, false] rfl rfl (any_of HT_.out (by kernel_rfl)) (fun _ _ _ h => h) (Or.inl ⟨by rfl, ?_⟩) ?_ ?_
                              rotate_left
                              · intro w'
                                go_simp
                                with_reducible rfl
                              rotate_left
                              · simp only [Act.put, List.setIfInBounds_toArray, List.set_cons_zero, List.set_cons_succ, i64_w, i32_w]
                                rfl
                              refine take_ (i := 13) (N := some 98) (v := ?_) (a' := ?_) #[true, true, true, true, true, true, true, true, true, true, true, true, true, true, true, false, false, true, false, true, false, false, false, false] rfl rfl (take_ofW HT_.out HW_.out (by kernel_rfl)) (fun _ _ _ h => h) (Or.inl ⟨by rfl, ?_⟩) hHeld ?_ ?_
                              rotate_left
                              · rintro w' ⟨s0, s1⟩
                                go_simp
                                with_reducible rfl
                              rotate_left
                              · simp only [Act.put, List.setIfInBounds_toArray, List.set_cons_zero, List.set_cons_succ, i64_w, i32_w]
                                rfl
                              refine take_ (i := 15) (N := some 100) (v := ?_) (a' := ?_) #[true, true, true, true, true, true, true, true, true, true, true, true, true, true, true, true, false, true, false, true, false, false, false, false] rfl rfl (take_ofW HT_.out HW_.out (by kernel_rfl)) (fun _ _ _ h => h) (Or.inl ⟨by rfl, ?_⟩) hHeld ?_ ?_
                              rotate_left
                              · rintro w' ⟨s0, s1⟩
                                go_simp
                                with_reducible rfl
                              rotate_left
                              · simp only [Act.put, List.setIfInBounds_toArray, List.set_cons_zero, List.set_cons_succ, i64_w, i32_w]
                                rfl
                              refine take_ (i := 18) (N := some 103) (v := ?_) (a' := ?_) #[true, true, true, true, true, true, true, true, true, true, true, true, true, true, true, true, false, true, true, true, false, false, false, false] rfl rfl (take_ofW HT_.out HW_.out (by kernel_rfl)) (fun _ _ _ h => h) (Or.inl ⟨by rfl, ?_⟩) hHeld ?_ ?_
                              rotate_left
                              · rintro w' ⟨s0, s1⟩
                                go_simp
                                with_reducible rfl
                              rotate_left
                              · simp only [Act.put, List.setIfInBounds_toArray, List.set_cons_zero, List.set_cons_succ, i64_w, i32_w]
                                rfl
                              refine take_ (i := 20) (N := some 105) (v := ?_) (a' := ?_) #[true, true, true, true, true, true, true, true, true, true, true, true, true, true, true, true, false, true, true, true, true, false, false, false] rfl rfl (take_ofW HT_.out HW_.out (by kernel_rfl)) (fun _ _ _ h => h) (Or.inl ⟨by rfl, ?_⟩) hHeld ?_ ?_
                              rotate_left
                              · rintro w' ⟨s0, s1⟩
                                go_simp
                                with_reducible rfl
                              rotate_left
                              · simp only [Act.put, List.setIfInBounds_toArray, List.set_cons_zero, List.set_cons_succ, i64_w, i32_w]
                                rfl
                              refine one_ (i := 16) (N := some 101) #[true, true, true, true, true, true, true, true, true, true, true, true, true, true, true, true, true, true, true, true, true, false, false, false] rfl rfl (one_of HT_.out (by kernel_rfl)) (by decide) (fun K hK => ?_)
                              refine goes_ Tryd.func26 (by kernel_rfl) rfl #[.string ((rd_T29 y267 x81_2).f0), .string ((rd_T29 y267 x81_2).f1)] (by rfl) rfl rfl (by (try simp only [List.map_toArray, List.map_cons, List.map_nil]); first | done | rfl | (simp only [List.length_drop, List.length_take]; rfl)) ?_
                              with_reducible refine (host_MailWithin.calls k2 ((rd_T29 y267 x81_2).f0) ((rd_T29 y267 x81_2).f1) t275 _ ?side1 A39.out).mono ?_
                              (case side1 => refine Ext.G.step ?_ hG_; repeat (first | (with_reducible first | exact HB.out | apply below_alloc | apply pw_below_drewN | apply below_drew1 | refine below_set ?_ GE272.out) | exact HB.out))
                              rintro e w56 ⟨rfl, hb⟩
                              refine ⟨_, rfl, ?_⟩
                              have n0_ := Aside0.mk (Kd.R_below (by (with_reducible repeat (first | apply Kd.R_alloc | apply Kd.R_drewN | apply Kd.R_drew)); exact HO_79.out) hb)
                              have n1_ := Aside0.mk (blk_below (g := gb272) (o := .cells #[.string ((rd_T29 y267 x81_2).f0), .string ((rd_T29 y267 x81_2).f1)] 29 (0, 0)) (by (with_reducible repeat (first | refine blk_drewN ?_ _ | refine blk_drew ?_ | refine blk_alloc ?_ _)); exact BK272.out) hb)
                              have n2_ := Aside0.mk (below_step (by repeat (first | (with_reducible first | exact HB.out | apply below_alloc | apply pw_below_drewN | apply below_drew1 | refine below_set ?_ GE272.out) | exact HB.out)) hb)
                              clear HO_79
                              clear BK272
                              clear HB
                              have HO_79 := n0_
                              have BK272 := n1_
                              have HB := n2_
                              clear n0_ n1_ n2_
                              (try clear hb)
                              (try clear hb2)
                              (try clear hk)
                              (try clear hi)
                              refine hK.out _ _ ⟨(blk_cell BK272.out 0).trans rfl, (blk_cell BK272.out 1).trans rfl⟩ (fun hHeld => ?_)
                              clear hK K
                              refine norm_ (a' := ?_) ?_ ?_
                              rotate_left
                              · show Act.put _ (some 101) _ = _
                                simp only [Act.put, List.setIfInBounds_toArray, List.set_cons_zero, List.set_cons_succ, i64_w, i32_w]
                                rfl
                              refine one_ (i := 21) (N := some 106) #[true, true, true, true, true, true, true, true, true, true, true, true, true, true, true, true, true, true, true, true, true, true, false, false] rfl rfl (one_of HT_.out (by kernel_rfl)) (by decide) (fun K hK => ?_)
                              refine goes_ Tryd.func27 (by kernel_rfl) rfl #[.string ((rd_T29 y267 x81_2).f0), .string ((rd_T29 y267 x81_2).f1)] (by rfl) rfl rfl (by (try simp only [List.map_toArray, List.map_cons, List.map_nil]); first | done | rfl | (simp only [List.length_drop, List.length_take]; rfl)) ?_
                              with_reducible refine (certpathref07_MailWithin.calls k2 ((rd_T29 y267 x81_2).f0) ((rd_T29 y267 x81_2).f1) t276 _ ?side1 A40.out).mono ?_
                              (case side1 => refine Ext.G.step ?_ hG_; repeat (first | (with_reducible first | exact HB.out | apply below_alloc | apply pw_below_drewN | apply below_drew1 | refine below_set ?_ GE272.out) | exact HB.out))
                              rintro e w57 ⟨rfl, hb⟩
                              refine ⟨_, rfl, ?_⟩
                              have n0_ := Aside0.mk (Kd.R_below (by (with_reducible repeat (first | apply Kd.R_alloc | apply Kd.R_drewN | apply Kd.R_drew)); exact HO_79.out) hb)
                              have n1_ := Aside0.mk (blk_below (g := gb272) (o := .cells #[.string ((rd_T29 y267 x81_2).f0), .string ((rd_T29 y267 x81_2).f1)] 29 (0, 0)) (by (with_reducible repeat (first | refine blk_drewN ?_ _ | refine blk_drew ?_ | refine blk_alloc ?_ _)); exact BK272.out) hb)
                              have n2_ := Aside0.mk (below_step (by repeat (first | (with_reducible first | exact HB.out | apply below_alloc | apply pw_below_drewN | apply below_drew1 | refine below_set ?_ GE272.out) | exact HB.out)) hb)
                              clear HO_79
                              clear BK272
                              clear HB
                              have HO_79 := n0_
                              have BK272 := n1_
                              have HB := n2_
                              clear n0_ n1_ n2_
                              (try clear hb)
                              (try clear hb2)
                              (try clear hk)
                              (try clear hi)
                              refine hK.out _ _ ⟨(blk_cell BK272.out 0).trans rfl, (blk_cell BK272.out 1).trans rfl⟩ (fun hHeld => ?_)
                              clear hK K
                              refine norm_ (a' := ?_) ?_ ?_
                              rotate_left
                              · show Act.put _ (some 106) _ = _
                                simp only [Act.put, List.setIfInBounds_toArray, List.set_cons_zero, List.set_cons_succ, i64_w, i32_w]
                                rfl
                              refine pure_ (i := 22) (N := some 107) (v := ?_) (a' := ?_) #[true, true, true, true, true, true, true, true, true, true, true, true, true, true, true, true, true, true, true, true, true, true, true, false] rfl rfl (any_of HT_.out (by kernel_rfl)) (fun _ _ _ h => h) (Or.inl ⟨by rfl, ?_⟩) ?_ ?_
                              rotate_left
                              · intro w'
                                go_simp
                                with_reducible rfl
                              rotate_left
                              · simp only [Act.put, List.setIfInBounds_toArray, List.set_cons_zero, List.set_cons_succ, i64_w, i32_w]
                                rfl
                              refine pure_ (i := 23) (N := some 108) (v := ?_) (a' := ?_) #[true, true, true, true, true, true, true, true, true, true, true, true, true, true, true, true, true, true, true, true, true, true, true, true] rfl rfl (any_of HT_.out (by kernel_rfl)) (fun _ _ _ h => h) (Or.inl ⟨by rfl, ?_⟩) ?_ ?_
                              rotate_left
                              · intro w'
                                go_simp
                                with_reducible rfl
                              rotate_left
                              · simp only [Act.put, List.setIfInBounds_toArray, List.set_cons_zero, List.set_cons_succ, i64_w, i32_w]
                                rfl
                              refine done_ (done_of HT_.out (by kernel_rfl)) ?_
                              try go_wp2
                              go_roundg k2
                              case measure => have := HJ4.out; have := HK2.out; omega
                              case rel => exact ⟨(wrap64 (x81_2 + 1)), (by first | rfl | (simp; done) | (simp [*]; done)), H', ⟨by have := HJ4.out; have := HK2.out; omega⟩, ⟨by (with_reducible repeat (first | apply Kd.R_alloc | apply Kd.R_drewN | apply Kd.R_drew)); exact Kd.R_mono HO_79.out (fun _ hk => trivial)⟩, ⟨by repeat (first | (with_reducible first | exact HB.out | apply below_alloc | apply pw_below_drewN | apply below_drew1 | refine below_set ?_ GE272.out) | exact HB.out)⟩⟩
                        · rw [if_neg c29] at H
                          exact absurd H (by simp)
                      · rw [if_neg c28] at H
                        exact absurd H (by simp)
                    · rw [if_neg c27] at H
                      have c27b0 : decide (x81_2 < (y267.length : Int)) = false := decide_eq_false c27
                      clear c27
                      replace H := Option.bind_eq_some_iff.mp H
                      obtain ⟨t270, A580, H⟩ := H
                      replace H : (some t270) = some r := H
                      have A58 := Aside0.mk A580
                      clear A580
                      obtain rfl := Option.some.inj H
                      go_wp2_with (first | ((with_reducible refine gate_callee (f := 10) rfl ?_); refine goesL_ (some 110) rfl rfl Tryd.func10 (by kernel_rfl) rfl #[] rfl (by (try simp only [List.map_toArray, List.map_cons, List.map_nil]); first | done | rfl | (simp only [List.length_drop, List.length_take]; rfl)) ?_; (with_reducible refine (certpathlaw08_awake.calls k2  t270 _ ?side1 A58.out).mono ?_); (case side1 => refine Ext.G.step ?_ hG_; repeat (first | (with_reducible first | exact HB.out | apply below_alloc | apply pw_below_drewN | apply below_drew1) | exact HB.out)); rintro e w59 ⟨rfl, hb⟩; refine ⟨_, rfl, ?_⟩; have n0_ := Aside0.mk (Kd.R_below (by (with_reducible repeat (first | apply Kd.R_alloc | apply Kd.R_drewN | apply Kd.R_drew)); exact HO_79.out) hb); have n1_ := Aside0.mk (below_step (by repeat (first | (with_reducible first | exact HB.out | apply below_alloc | apply pw_below_drewN | apply below_drew1) | exact HB.out)) hb); clear HO_79; clear HB; have HO_79 := n0_; have HB := n1_; clear n0_ n1_; (try clear hb); (try clear hb2); (try clear hk); (try clear hi)))
                      go_ret
                      exact ⟨by first | rfl | (simp [errW_none, errW_some] <;> rfl) | (simp [*, errW_none, errW_some] <;> rfl), by repeat (first | (with_reducible first | exact HB.out | apply below_alloc | apply pw_below_drewN | apply below_drew1) | exact HB.out)⟩
              · rw [if_neg c15] at H
                exact absurd H (by simp)
            · rw [if_neg c14] at H
              exact absurd H (by simp)
          · rw [if_neg c13] at H
            exact absurd H (by simp)
        · rw [if_neg c12] at H
          exact absurd H (by simp)

/-- THE ONE PURE STATEMENT of certpathlaw08_HostMail: yours. -/
def certpathlaw08_HostMail.Pure : Prop := ∀ (a0 : ByteArray) (a1 : ByteArray) (l2 : List Int) (l3 : List Int), a0.size ≤ 140737488351232 → a1.size ≤ 140737488351232 → l2.length ≤ maxLen → l2.length * 1 ≤ 140737488351232 → (∀ x ∈ l2, (Lit.int .u8 x).wf = true) → l3.length ≤ maxLen → l3.length * 1 ≤ 140737488351232 → (∀ x ∈ l3, (Lit.int .u8 x).wf = true) → ∃ k, certpathlaw08_HostMail.f k a0 a1 l2 l3 = some true
theorem certpathlaw08_HostMail.walk (P : certpathlaw08_HostMail.Pure) (a0 : ByteArray) (a1 : ByteArray) (a2 : Option Addr) (len2 cap2 : Nat) (z2 : List Int) (a3 : Option Addr) (len3 cap3 : Nat) (z3 : List Int) (w : World) (hG_ : Ext.G w) (w0 : a0.size ≤ 140737488351232) (w1 : a1.size ≤ 140737488351232) (w2 : (a2 = none ∧ len2 = 0 ∧ cap2 = 0 ∧ z2 = []) ∨ ∃ x, a2 = some x ∧ len2 ≤ cap2 ∧ cap2 ≤ maxLen ∧ z2.length = cap2 ∧ (∀ i, i < z2.length → w.cell? (x.add i) = some (.int .u8 (z2.getD i 0))) ∧ ∀ n ∈ z2, (Lit.int .u8 n).wf = true) (y2 : len2 * 1 ≤ 140737488351232) (w3 : (a3 = none ∧ len3 = 0 ∧ cap3 = 0 ∧ z3 = []) ∨ ∃ x, a3 = some x ∧ len3 ≤ cap3 ∧ cap3 ≤ maxLen ∧ z3.length = cap3 ∧ (∀ i, i < z3.length → w.cell? (x.add i) = some (.int .u8 (z3.getD i 0))) ∧ ∀ n ∈ z3, (Lit.int .u8 n).wf = true) (y3 : len3 * 1 ≤ 140737488351232) :
    Calls Tryd.prog 5 #[.string a0, .string a1, .slice a2 len2 cap2, .slice a3 len3 cap3] w fun e w' => e = .returned (.bool true) ∧ Below w.heap.size w w' := by
  obtain ⟨l2, rfl, hr2, hm2, hw2, hc2⟩ := ReadsInt.ofRowC w2
  obtain ⟨l3, rfl, hr3, hm3, hw3, hc3⟩ := ReadsInt.ofRowC w3
  obtain ⟨k, h⟩ := P a0 a1 l2 l3 w0 w1 hm2 y2 hw2 hm3 y3 hw3
  refine (certpathlaw08_HostMail.calls k a0 a1 _ _ l2 _ _ l3 true w hG_ (Kd.C_of_reads (d := (0 : Int)) (h1 := fun _ => rfl) hr2) hc2 (Kd.C_of_reads (d := (0 : Int)) (h1 := fun _ => rfl) hr3) hc3 h).mono ?_
  rintro e w' ⟨rfl, hd⟩
  exact ⟨rfl, hd⟩

end Go.Proofs.YtegmenlonpgnpaaDoor.Q
