-- Written by a program of this session (wip/prn.py) out of the translation, for the seat YtegmenlonpgnpaaDoor. Not trusted: Lean checks it.
import Derived.Test.YtegmenlonpgnpaaDoorQx0
import Derived.Test.YtegmenlonpgnpaaDoorQx5
import Derived.Test.YtegmenlonpgnpaaDoorQx7
import Derived.Test.YtegmenlonpgnpaaDoorQx8
import Derived.Test.YtegmenlonpgnpaaDoorQx9
namespace Go.Proofs.YtegmenlonpgnpaaDoor.Q
open Go.RowKit Go.Proofs.YtegmenlonpgnpaaDoorW.PrintWords Go.Proofs.YtegmenlonpgnpaaDoorW.PrintLast Go.Proofs.YtegmenlonpgnpaaDoorW.PrintMore
attribute [local go_sem] max2_int min2_int max_two min_two max_three min_three max_four min_four   -- for this text's walks alone
set_option linter.unusedVariables false
set_option linter.unusedSimpArgs false

/-! ### certpathlaw08_HostChains: function 6 -/
mutual
def certpathlaw08_HostChains.j0 : Nat → List Int → ByteArray → ByteArray → ByteArray → Bool → Option (Bool)
  | 0, _, _, _, _, _ => none
  | k + 1, x0, x7, x8, x9, x29 => if x29 = true then (if 0 ≤ (mn (x0.length : Int) 2) then (if (mn (x0.length : Int) 2) ≤ (x0.length : Int) then ((certpathlaw08_dns.f k (x0.take ((mn (x0.length : Int) 2) : Int).toNat)).bind fun t268 => (if 1 ≤ (x0.length : Int) then ((certpathlaw08_dns.f k (x0.take 1)).bind fun t270 => (certpathlaw08_HostChains.j1 k x7 t268 t270)) else (none))) else (none)) else (none)) else (certpathlaw08_HostChains.j1 k x7 x8 x9)
def certpathlaw08_HostChains.j1 : Nat → ByteArray → ByteArray → ByteArray → Option (Bool)
  | 0, _, _, _ => none
  | k + 1, x7, x8, x9 => (host_DNSWithin.f k x7 x8).bind fun t271 => (if t271 = true then ((host_DNSWithin.f k x8 x9).bind fun t272 => (if t272 = true then ((host_DNSWithin.f k x7 x9).bind fun t273 => (certpathlaw08_HostChains.j2 k x7 x8 x9 (!t273))) else (certpathlaw08_HostChains.j2 k x7 x8 x9 false))) else (certpathlaw08_HostChains.j2 k x7 x8 x9 false))
def certpathlaw08_HostChains.j2 : Nat → ByteArray → ByteArray → ByteArray → Bool → Option (Bool)
  | 0, _, _, _, _ => none
  | k + 1, x7, x8, x9, x52 => if x52 = true then (some false) else (if 4 + x7.size ≤ 9223372036854775807 then (if 1 + x7.size ≤ 9223372036854775807 then ((some (([(⟨#[97, 110, 110, 64]⟩ : ByteArray) ++ x7, x7, (⟨#[46]⟩ : ByteArray) ++ x7] : List ByteArray) : List ByteArray)).bind fun y274 => (certpathlaw08_HostChains.l0 k x8 x9 y274 (y274.length : Int) 0)) else (none)) else (none))
def certpathlaw08_HostChains.l0 : Nat → ByteArray → ByteArray → List ByteArray → Int → Int → Option (Bool)
  | 0, _, _, _, _, _ => none
  | k + 1, x8, x9, x58, x59, x60 => if x60 < x59 then (if 0 ≤ x60 then (if x60 < (x58.length : Int) then (if 4 + x8.size ≤ 9223372036854775807 then (if 1 + x8.size ≤ 9223372036854775807 then ((some (([(⟨#[97, 110, 110, 64]⟩ : ByteArray) ++ x8, x8, (⟨#[46]⟩ : ByteArray) ++ x8] : List ByteArray) : List ByteArray)).bind fun y279 => (certpathlaw08_HostChains.l1 k x8 x9 (rdOf ByteArray.empty x58 x60) x58 x59 x60 y279 (y279.length : Int) 0)) else (none)) else (none)) else (none)) else (none)) else ((certpathlaw08_awake.f k).bind fun t277 => (some t277))
def certpathlaw08_HostChains.l1 : Nat → ByteArray → ByteArray → ByteArray → List ByteArray → Int → Int → List ByteArray → Int → Int → Option (Bool)
  | 0, _, _, _, _, _, _, _, _, _ => none
  | k + 1, x8, x9, x11, x58, x59, x60, x69, x70, x71 => if x71 < x70 then (if 0 ≤ x71 then (if x71 < (x69.length : Int) then (if 4 + x9.size ≤ 9223372036854775807 then (if 1 + x9.size ≤ 9223372036854775807 then ((some (([(⟨#[97, 110, 110, 64]⟩ : ByteArray) ++ x9, x9, (⟨#[46]⟩ : ByteArray) ++ x9] : List ByteArray) : List ByteArray)).bind fun y283 => (certpathlaw08_HostChains.l2 k x8 x9 x11 (rdOf ByteArray.empty x69 x71) x58 x59 x60 x69 x70 x71 y283 (y283.length : Int) 0)) else (none)) else (none)) else (none)) else (none)) else (certpathlaw08_HostChains.l0 k x8 x9 x58 x59 (wrap64 (x60 + 1)))
def certpathlaw08_HostChains.l2 : Nat → ByteArray → ByteArray → ByteArray → ByteArray → List ByteArray → Int → Int → List ByteArray → Int → Int → List ByteArray → Int → Int → Option (Bool)
  | 0, _, _, _, _, _, _, _, _, _, _, _, _, _ => none
  | k + 1, x8, x9, x11, x13, x58, x59, x60, x69, x70, x71, x80, x81, x82 => if x82 < x81 then (if 0 ≤ x82 then (if x82 < (x80.length : Int) then ((host_MailWithin.f k x11 x13).bind fun t287 => (if t287 = true then ((host_MailWithin.f k x13 (rdOf ByteArray.empty x80 x82)).bind fun t288 => (if t288 = true then ((host_MailWithin.f k x11 (rdOf ByteArray.empty x80 x82)).bind fun t289 => (if t289 = true then (certpathlaw08_HostChains.l2 k x8 x9 x11 x13 x58 x59 x60 x69 x70 x71 x80 x81 (wrap64 (x82 + 1))) else (some false))) else (certpathlaw08_HostChains.l2 k x8 x9 x11 x13 x58 x59 x60 x69 x70 x71 x80 x81 (wrap64 (x82 + 1))))) else (certpathlaw08_HostChains.l2 k x8 x9 x11 x13 x58 x59 x60 x69 x70 x71 x80 x81 (wrap64 (x82 + 1))))) else (none)) else (none)) else (certpathlaw08_HostChains.l1 k x8 x9 x11 x58 x59 x60 x69 x70 (wrap64 (x71 + 1)))
end
def certpathlaw08_HostChains.f (k : Nat) (l0 : List Int) (l1 : List Int) (l2 : List Int) : Option (Bool) := (certpathlaw08_dns.f k l0).bind fun t264 => ((certpathlaw08_dns.f k l1).bind fun t265 => ((certpathlaw08_dns.f k l2).bind fun t266 => (if (l0.length : Int) > 1 then (certpathlaw08_HostChains.j0 k l0 t264 t265 t266 (decide ((l1.length : Int) < 2))) else (certpathlaw08_HostChains.j0 k l0 t264 t265 t266 false))))
theorem certpathlaw08_HostChains.mono_l : ∀ k, (∀ y0 y1 y2 y3 y4, LeO (certpathlaw08_HostChains.j0 k y0 y1 y2 y3 y4) (certpathlaw08_HostChains.j0 (k + 1) y0 y1 y2 y3 y4)) ∧ (∀ y0 y1 y2, LeO (certpathlaw08_HostChains.j1 k y0 y1 y2) (certpathlaw08_HostChains.j1 (k + 1) y0 y1 y2)) ∧ (∀ y0 y1 y2 y3, LeO (certpathlaw08_HostChains.j2 k y0 y1 y2 y3) (certpathlaw08_HostChains.j2 (k + 1) y0 y1 y2 y3)) ∧ (∀ y0 y1 y2 y3 y4, LeO (certpathlaw08_HostChains.l0 k y0 y1 y2 y3 y4) (certpathlaw08_HostChains.l0 (k + 1) y0 y1 y2 y3 y4)) ∧ (∀ y0 y1 y2 y3 y4 y5 y6 y7 y8, LeO (certpathlaw08_HostChains.l1 k y0 y1 y2 y3 y4 y5 y6 y7 y8) (certpathlaw08_HostChains.l1 (k + 1) y0 y1 y2 y3 y4 y5 y6 y7 y8)) ∧ (∀ y0 y1 y2 y3 y4 y5 y6 y7 y8 y9 y10 y11 y12, LeO (certpathlaw08_HostChains.l2 k y0 y1 y2 y3 y4 y5 y6 y7 y8 y9 y10 y11 y12) (certpathlaw08_HostChains.l2 (k + 1) y0 y1 y2 y3 y4 y5 y6 y7 y8 y9 y10 y11 y12))
  | 0 => ⟨fun _ _ _ _ _ r h => by simp [certpathlaw08_HostChains.j0] at h, fun _ _ _ r h => by simp [certpathlaw08_HostChains.j1] at h, fun _ _ _ _ r h => by simp [certpathlaw08_HostChains.j2] at h, fun _ _ _ _ _ r h => by simp [certpathlaw08_HostChains.l0] at h, fun _ _ _ _ _ _ _ _ _ r h => by simp [certpathlaw08_HostChains.l1] at h, fun _ _ _ _ _ _ _ _ _ _ _ _ _ r h => by simp [certpathlaw08_HostChains.l2] at h⟩
  | k + 1 => by
    obtain ⟨ih0, ih1, ih2, ih3, ih4, ih5⟩ := certpathlaw08_HostChains.mono_l k
    refine ⟨?_, ?_, ?_, ?_, ?_, ?_⟩
    · intro y0 y1 y2 y3 y4
      unfold certpathlaw08_HostChains.j0
      repeat' first
      | (with_reducible exact ih0 _ _ _ _ _)
      | (with_reducible exact ih1 _ _ _)
      | (with_reducible exact ih2 _ _ _ _)
      | (with_reducible exact ih3 _ _ _ _ _)
      | (with_reducible exact ih4 _ _ _ _ _ _ _ _ _)
      | (with_reducible exact ih5 _ _ _ _ _ _ _ _ _ _ _ _ _)
      | (with_reducible exact certpathlaw08_awake.mono _)
      | (with_reducible exact certpathlaw08_dns.mono _ _)
      | (with_reducible exact host_DNSWithin.mono _ _ _)
      | (with_reducible exact host_MailWithin.mono _ _ _)
      | (with_reducible exact LeO.refl _)
      | (with_reducible exact LeO.none _)
      | (with_reducible refine LeO.ite ?_ ?_)
      | (with_reducible refine LeO.bind ?_ (fun _ => ?_))
      | exact ih0 _ _ _ _ _
      | exact ih1 _ _ _
      | exact ih2 _ _ _ _
      | exact ih3 _ _ _ _ _
      | exact ih4 _ _ _ _ _ _ _ _ _
      | exact ih5 _ _ _ _ _ _ _ _ _ _ _ _ _
      | exact certpathlaw08_awake.mono _
      | exact certpathlaw08_dns.mono _ _
      | exact host_DNSWithin.mono _ _ _
      | exact host_MailWithin.mono _ _ _
      | exact LeO.none _
      | refine LeO.ite ?_ ?_
      | refine LeO.bind ?_ (fun _ => ?_)
    · intro y0 y1 y2
      unfold certpathlaw08_HostChains.j1
      repeat' first
      | (with_reducible exact ih0 _ _ _ _ _)
      | (with_reducible exact ih1 _ _ _)
      | (with_reducible exact ih2 _ _ _ _)
      | (with_reducible exact ih3 _ _ _ _ _)
      | (with_reducible exact ih4 _ _ _ _ _ _ _ _ _)
      | (with_reducible exact ih5 _ _ _ _ _ _ _ _ _ _ _ _ _)
      | (with_reducible exact certpathlaw08_awake.mono _)
      | (with_reducible exact certpathlaw08_dns.mono _ _)
      | (with_reducible exact host_DNSWithin.mono _ _ _)
      | (with_reducible exact host_MailWithin.mono _ _ _)
      | (with_reducible exact LeO.refl _)
      | (with_reducible exact LeO.none _)
      | (with_reducible refine LeO.ite ?_ ?_)
      | (with_reducible refine LeO.bind ?_ (fun _ => ?_))
      | exact ih0 _ _ _ _ _
      | exact ih1 _ _ _
      | exact ih2 _ _ _ _
      | exact ih3 _ _ _ _ _
      | exact ih4 _ _ _ _ _ _ _ _ _
      | exact ih5 _ _ _ _ _ _ _ _ _ _ _ _ _
      | exact certpathlaw08_awake.mono _
      | exact certpathlaw08_dns.mono _ _
      | exact host_DNSWithin.mono _ _ _
      | exact host_MailWithin.mono _ _ _
      | exact LeO.none _
      | refine LeO.ite ?_ ?_
      | refine LeO.bind ?_ (fun _ => ?_)
    · intro y0 y1 y2 y3
      unfold certpathlaw08_HostChains.j2
      repeat' first
      | (with_reducible exact ih0 _ _ _ _ _)
      | (with_reducible exact ih1 _ _ _)
      | (with_reducible exact ih2 _ _ _ _)
      | (with_reducible exact ih3 _ _ _ _ _)
      | (with_reducible exact ih4 _ _ _ _ _ _ _ _ _)
      | (with_reducible exact ih5 _ _ _ _ _ _ _ _ _ _ _ _ _)
      | (with_reducible exact certpathlaw08_awake.mono _)
      | (with_reducible exact certpathlaw08_dns.mono _ _)
      | (with_reducible exact host_DNSWithin.mono _ _ _)
      | (with_reducible exact host_MailWithin.mono _ _ _)
      | (with_reducible exact LeO.refl _)
      | (with_reducible exact LeO.none _)
      | (with_reducible refine LeO.ite ?_ ?_)
      | (with_reducible refine LeO.bind ?_ (fun _ => ?_))
      | exact ih0 _ _ _ _ _
      | exact ih1 _ _ _
      | exact ih2 _ _ _ _
      | exact ih3 _ _ _ _ _
      | exact ih4 _ _ _ _ _ _ _ _ _
      | exact ih5 _ _ _ _ _ _ _ _ _ _ _ _ _
      | exact certpathlaw08_awake.mono _
      | exact certpathlaw08_dns.mono _ _
      | exact host_DNSWithin.mono _ _ _
      | exact host_MailWithin.mono _ _ _
      | exact LeO.none _
      | refine LeO.ite ?_ ?_
      | refine LeO.bind ?_ (fun _ => ?_)
    · intro y0 y1 y2 y3 y4
      unfold certpathlaw08_HostChains.l0
      repeat' first
      | (with_reducible exact ih0 _ _ _ _ _)
      | (with_reducible exact ih1 _ _ _)
      | (with_reducible exact ih2 _ _ _ _)
      | (with_reducible exact ih3 _ _ _ _ _)
      | (with_reducible exact ih4 _ _ _ _ _ _ _ _ _)
      | (with_reducible exact ih5 _ _ _ _ _ _ _ _ _ _ _ _ _)
      | (with_reducible exact certpathlaw08_awake.mono _)
      | (with_reducible exact certpathlaw08_dns.mono _ _)
      | (with_reducible exact host_DNSWithin.mono _ _ _)
      | (with_reducible exact host_MailWithin.mono _ _ _)
      | (with_reducible exact LeO.refl _)
      | (with_reducible exact LeO.none _)
      | (with_reducible refine LeO.ite ?_ ?_)
      | (with_reducible refine LeO.bind ?_ (fun _ => ?_))
      | exact ih0 _ _ _ _ _
      | exact ih1 _ _ _
      | exact ih2 _ _ _ _
      | exact ih3 _ _ _ _ _
      | exact ih4 _ _ _ _ _ _ _ _ _
      | exact ih5 _ _ _ _ _ _ _ _ _ _ _ _ _
      | exact certpathlaw08_awake.mono _
      | exact certpathlaw08_dns.mono _ _
      | exact host_DNSWithin.mono _ _ _
      | exact host_MailWithin.mono _ _ _
      | exact LeO.none _
      | refine LeO.ite ?_ ?_
      | refine LeO.bind ?_ (fun _ => ?_)
    · intro y0 y1 y2 y3 y4 y5 y6 y7 y8
      unfold certpathlaw08_HostChains.l1
      repeat' first
      | (with_reducible exact ih0 _ _ _ _ _)
      | (with_reducible exact ih1 _ _ _)
      | (with_reducible exact ih2 _ _ _ _)
      | (with_reducible exact ih3 _ _ _ _ _)
      | (with_reducible exact ih4 _ _ _ _ _ _ _ _ _)
      | (with_reducible exact ih5 _ _ _ _ _ _ _ _ _ _ _ _ _)
      | (with_reducible exact certpathlaw08_awake.mono _)
      | (with_reducible exact certpathlaw08_dns.mono _ _)
      | (with_reducible exact host_DNSWithin.mono _ _ _)
      | (with_reducible exact host_MailWithin.mono _ _ _)
      | (with_reducible exact LeO.refl _)
      | (with_reducible exact LeO.none _)
      | (with_reducible refine LeO.ite ?_ ?_)
      | (with_reducible refine LeO.bind ?_ (fun _ => ?_))
      | exact ih0 _ _ _ _ _
      | exact ih1 _ _ _
      | exact ih2 _ _ _ _
      | exact ih3 _ _ _ _ _
      | exact ih4 _ _ _ _ _ _ _ _ _
      | exact ih5 _ _ _ _ _ _ _ _ _ _ _ _ _
      | exact certpathlaw08_awake.mono _
      | exact certpathlaw08_dns.mono _ _
      | exact host_DNSWithin.mono _ _ _
      | exact host_MailWithin.mono _ _ _
      | exact LeO.none _
      | refine LeO.ite ?_ ?_
      | refine LeO.bind ?_ (fun _ => ?_)
    · intro y0 y1 y2 y3 y4 y5 y6 y7 y8 y9 y10 y11 y12
      unfold certpathlaw08_HostChains.l2
      repeat' first
      | (with_reducible exact ih0 _ _ _ _ _)
      | (with_reducible exact ih1 _ _ _)
      | (with_reducible exact ih2 _ _ _ _)
      | (with_reducible exact ih3 _ _ _ _ _)
      | (with_reducible exact ih4 _ _ _ _ _ _ _ _ _)
      | (with_reducible exact ih5 _ _ _ _ _ _ _ _ _ _ _ _ _)
      | (with_reducible exact certpathlaw08_awake.mono _)
      | (with_reducible exact certpathlaw08_dns.mono _ _)
      | (with_reducible exact host_DNSWithin.mono _ _ _)
      | (with_reducible exact host_MailWithin.mono _ _ _)
      | (with_reducible exact LeO.refl _)
      | (with_reducible exact LeO.none _)
      | (with_reducible refine LeO.ite ?_ ?_)
      | (with_reducible refine LeO.bind ?_ (fun _ => ?_))
      | exact ih0 _ _ _ _ _
      | exact ih1 _ _ _
      | exact ih2 _ _ _ _
      | exact ih3 _ _ _ _ _
      | exact ih4 _ _ _ _ _ _ _ _ _
      | exact ih5 _ _ _ _ _ _ _ _ _ _ _ _ _
      | exact certpathlaw08_awake.mono _
      | exact certpathlaw08_dns.mono _ _
      | exact host_DNSWithin.mono _ _ _
      | exact host_MailWithin.mono _ _ _
      | exact LeO.none _
      | refine LeO.ite ?_ ?_
      | refine LeO.bind ?_ (fun _ => ?_)
theorem certpathlaw08_HostChains.mono : ∀ a0 a1 a2 k, LeO (certpathlaw08_HostChains.f k a0 a1 a2) (certpathlaw08_HostChains.f (k + 1) a0 a1 a2) := by
  intro a0 a1 a2 k
  obtain ⟨ih0, ih1, ih2, ih3, ih4, ih5⟩ := certpathlaw08_HostChains.mono_l k
  unfold certpathlaw08_HostChains.f
  repeat' first
      | (with_reducible exact ih0 _ _ _ _ _)
      | (with_reducible exact ih1 _ _ _)
      | (with_reducible exact ih2 _ _ _ _)
      | (with_reducible exact ih3 _ _ _ _ _)
      | (with_reducible exact ih4 _ _ _ _ _ _ _ _ _)
      | (with_reducible exact ih5 _ _ _ _ _ _ _ _ _ _ _ _ _)
      | (with_reducible exact certpathlaw08_awake.mono _)
      | (with_reducible exact certpathlaw08_dns.mono _ _)
      | (with_reducible exact host_DNSWithin.mono _ _ _)
      | (with_reducible exact host_MailWithin.mono _ _ _)
      | (with_reducible exact LeO.refl _)
      | (with_reducible exact LeO.none _)
      | (with_reducible refine LeO.ite ?_ ?_)
      | (with_reducible refine LeO.bind ?_ (fun _ => ?_))
      | exact ih0 _ _ _ _ _
      | exact ih1 _ _ _
      | exact ih2 _ _ _ _
      | exact ih3 _ _ _ _ _
      | exact ih4 _ _ _ _ _ _ _ _ _
      | exact ih5 _ _ _ _ _ _ _ _ _ _ _ _ _
      | exact certpathlaw08_awake.mono _
      | exact certpathlaw08_dns.mono _ _
      | exact host_DNSWithin.mono _ _ _
      | exact host_MailWithin.mono _ _ _
      | exact LeO.none _
      | refine LeO.ite ?_ ?_
      | refine LeO.bind ?_ (fun _ => ?_)
def certpathlaw08_HostChains.T3 : Bool × List (List Nat × List Nat) := (true, [([], []), ([], []), ([1], [1]), ([2], [2]), ([0, 3], [0, 3]), ([4], [4]), ([], []), ([6], [6]), ([7, 5], [7]), ([5, 8, 0, 1, 2, 3, 4, 5], [5]), ([8, 9, 0, 1, 2, 3, 4, 5, 6, 7, 8, 9], [8])])
def certpathlaw08_HostChains.B3 : List Nat := [0, 0, 2, 6, 15, 31, 0, 64, 255, 511, 1023]
theorem certpathlaw08_HostChains.tab3 : rtab .any (opsOf Tryd.f6 3) = certpathlaw08_HostChains.T3 := by kernel_rfl
theorem certpathlaw08_HostChains.bits3 : waitsOk certpathlaw08_HostChains.T3.2 certpathlaw08_HostChains.B3 = true := by kernel_rfl
set_option maxHeartbeats 8000000 in
set_option maxRecDepth 100000 in
theorem certpathlaw08_HostChains.calls (k : Nat) (A0 : Option Addr) (c0 : Nat) (l0 : List Int) (A1 : Option Addr) (c1 : Nat) (l1 : List Int) (A2 : Option Addr) (c2 : Nat) (l2 : List Int) (r : Bool) (w : World) (hG_ : Ext.G w) (hr0 : Kd.C (Kd.int .u8) w A0 l0.length l0) (hc0 : l0.length ≤ c0) (hr1 : Kd.C (Kd.int .u8) w A1 l1.length l1) (hc1 : l1.length ≤ c1) (hr2 : Kd.C (Kd.int .u8) w A2 l2.length l2) (hc2 : l2.length ≤ c2) (h : certpathlaw08_HostChains.f k l0 l1 l2 = some r) :
    Calls Tryd.prog 6 #[.slice A0 l0.length c0, .slice A1 l1.length c1, .slice A2 l2.length c2] w fun e w' => e = .returned (.bool r) ∧ Below w.heap.size w w' := by
  have HR0 := Aside0.mk hr0
  have HC0 := Aside0.mk hc0
  clear hr0 hc0
  have HR1 := Aside0.mk hr1
  have HC1 := Aside0.mk hc1
  clear hr1 hc1
  have HR2 := Aside0.mk hr2
  have HC2 := Aside0.mk hc2
  clear hr2 hc2
  have HB := Aside0.mk (Below.refl w.heap.size w)
  have H : ((certpathlaw08_dns.f k l0).bind fun t264 => ((certpathlaw08_dns.f k l1).bind fun t265 => ((certpathlaw08_dns.f k l2).bind fun t266 => (if (l0.length : Int) > 1 then (certpathlaw08_HostChains.j0 k l0 t264 t265 t266 (decide ((l1.length : Int) < 2))) else (certpathlaw08_HostChains.j0 k l0 t264 t265 t266 false))))) = some r := h
  clear h
  replace H := Option.bind_eq_some_iff.mp H
  obtain ⟨t264, A40, H⟩ := H
  replace H : ((certpathlaw08_dns.f k l1).bind fun t265 => ((certpathlaw08_dns.f k l2).bind fun t266 => (if (l0.length : Int) > 1 then (certpathlaw08_HostChains.j0 k l0 t264 t265 t266 (decide ((l1.length : Int) < 2))) else (certpathlaw08_HostChains.j0 k l0 t264 t265 t266 false)))) = some r := H
  have A4 := Aside0.mk A40
  clear A40
  replace H := Option.bind_eq_some_iff.mp H
  obtain ⟨t265, A50, H⟩ := H
  replace H : ((certpathlaw08_dns.f k l2).bind fun t266 => (if (l0.length : Int) > 1 then (certpathlaw08_HostChains.j0 k l0 t264 t265 t266 (decide ((l1.length : Int) < 2))) else (certpathlaw08_HostChains.j0 k l0 t264 t265 t266 false))) = some r := H
  have A5 := Aside0.mk A50
  clear A50
  replace H := Option.bind_eq_some_iff.mp H
  obtain ⟨t266, A60, H⟩ := H
  replace H : (if (l0.length : Int) > 1 then (certpathlaw08_HostChains.j0 k l0 t264 t265 t266 (decide ((l1.length : Int) < 2))) else (certpathlaw08_HostChains.j0 k l0 t264 t265 t266 false)) = some r := H
  have A6 := Aside0.mk A60
  clear A60
  have HC7 := Aside0.mk H
  clear H
  go_enter Tryd.func6, Tryd.ntmps6
  go_upto_region 2 with (first | ((with_reducible refine gate_callee (f := 12) rfl ?_); refine goesL_ (some 17) rfl rfl Tryd.func12 (by kernel_rfl) rfl #[.slice A0 l0.length c0] rfl (by (try simp only [List.map_toArray, List.map_cons, List.map_nil]); first | done | rfl | (simp only [List.length_drop, List.length_take]; rfl)) ?_; (with_reducible refine (certpathlaw08_dns.calls k _ _ l0 t264 _ ?side1 ?side2 ?side3 A4.out).mono ?_); (case side1 => refine Ext.G.step ?_ hG_; repeat (first | (with_reducible first | exact HB.out | apply below_alloc | apply pw_below_drewN | apply below_drew1) | exact HB.out)); (case side2 => repeat (first | exact HR0.out | (with_reducible refine Kd.C_alloc ?_ _) | (with_reducible refine Kd.C_drewN ?_ _) | (with_reducible refine Kd.C_drew ?_))); (case side3 => exact HC0.out); rintro e w8 ⟨rfl, hb⟩; refine ⟨_, rfl, ?_⟩; have n0_ := Aside0.mk (below_step (by repeat (first | (with_reducible first | exact HB.out | apply below_alloc | apply pw_below_drewN | apply below_drew1) | exact HB.out)) hb); clear HB; have HB := n0_; clear n0_; (try clear hb); (try clear hb2); (try clear hk); (try clear hi)) | ((with_reducible refine gate_callee (f := 12) rfl ?_); refine goesL_ (some 19) rfl rfl Tryd.func12 (by kernel_rfl) rfl #[.slice A1 l1.length c1] rfl (by (try simp only [List.map_toArray, List.map_cons, List.map_nil]); first | done | rfl | (simp only [List.length_drop, List.length_take]; rfl)) ?_; (with_reducible refine (certpathlaw08_dns.calls k _ _ l1 t265 _ ?side1 ?side2 ?side3 A5.out).mono ?_); (case side1 => refine Ext.G.step ?_ hG_; repeat (first | (with_reducible first | exact HB.out | apply below_alloc | apply pw_below_drewN | apply below_drew1) | exact HB.out)); (case side2 => repeat (first | exact (Kd.C_below HR1.out HB.out) | (with_reducible refine Kd.C_alloc ?_ _) | (with_reducible refine Kd.C_drewN ?_ _) | (with_reducible refine Kd.C_drew ?_))); (case side3 => exact HC1.out); rintro e w9 ⟨rfl, hb⟩; refine ⟨_, rfl, ?_⟩; have n0_ := Aside0.mk (below_step (by repeat (first | (with_reducible first | exact HB.out | apply below_alloc | apply pw_below_drewN | apply below_drew1) | exact HB.out)) hb); clear HB; have HB := n0_; clear n0_; (try clear hb); (try clear hb2); (try clear hk); (try clear hi)) | ((with_reducible refine gate_callee (f := 12) rfl ?_); refine goesL_ (some 21) rfl rfl Tryd.func12 (by kernel_rfl) rfl #[.slice A2 l2.length c2] rfl (by (try simp only [List.map_toArray, List.map_cons, List.map_nil]); first | done | rfl | (simp only [List.length_drop, List.length_take]; rfl)) ?_; (with_reducible refine (certpathlaw08_dns.calls k _ _ l2 t266 _ ?side1 ?side2 ?side3 A6.out).mono ?_); (case side1 => refine Ext.G.step ?_ hG_; repeat (first | (with_reducible first | exact HB.out | apply below_alloc | apply pw_below_drewN | apply below_drew1) | exact HB.out)); (case side2 => repeat (first | exact (Kd.C_below HR2.out HB.out) | (with_reducible refine Kd.C_alloc ?_ _) | (with_reducible refine Kd.C_drewN ?_ _) | (with_reducible refine Kd.C_drew ?_))); (case side3 => exact HC2.out); rintro e w10 ⟨rfl, hb⟩; refine ⟨_, rfl, ?_⟩; have n0_ := Aside0.mk (below_step (by repeat (first | (with_reducible first | exact HB.out | apply below_alloc | apply pw_below_drewN | apply below_drew1) | exact HB.out)) hb); clear HB; have HB := n0_; clear n0_; (try clear hb); (try clear hb2); (try clear hk); (try clear hi)))
  (try simp only [Act.put, List.setIfInBounds_toArray, List.set_cons_zero, List.set_cons_succ])
  go_cut [29] (fun v29 wc => ∃ (kq : Nat) (x29_6 : Bool), v29 = .bool x29_6 ∧ Aside0 (certpathlaw08_HostChains.j0 kq l0 t264 t265 t266 x29_6 = some r) ∧ Aside0 (kq ≤ k) ∧ Aside0 (Below w.heap.size w wc))
  case first =>
    have H := HC7.out
    clear HC7
    by_cases c11 : (l0.length : Int) > 1
    · rw [if_pos c11] at H
      have c11b0 : decide (1 < (l0.length : Int)) = true := decide_eq_true c11
      have c11b1 : decide (1 < l0.length) = true := decide_eq_true (by omega)
      clear c11
      (first | rw [c11b0] | (simp only [i64_w, i32_w]; rw [c11b0]) | skip)
      have H' := Aside0.mk H
      clear H
      go_wp2
      go_meet
      case rel => exact ⟨_, (decide ((l1.length : Int) < 2)), (by first | rfl | (simp; done) | (simp [*]; done)), H', ⟨by first | omega | exact Nat.le_refl _⟩, ⟨by repeat (first | (with_reducible first | exact HB.out | apply below_alloc | apply pw_below_drewN | apply below_drew1) | exact HB.out)⟩⟩
    · rw [if_neg c11] at H
      have c11b0 : decide (1 < (l0.length : Int)) = false := decide_eq_false c11
      have c11b1 : decide (1 < l0.length) = false := decide_eq_false (by omega)
      clear c11
      (first | rw [c11b0] | (simp only [i64_w, i32_w]; rw [c11b0]) | skip)
      have H' := Aside0.mk H
      clear H
      go_wp2
      go_meet
      case rel => exact ⟨_, (false), (by first | rfl | (simp; done) | (simp [*]; done)), H', ⟨by first | omega | exact Nat.le_refl _⟩, ⟨by repeat (first | (with_reducible first | exact HB.out | apply below_alloc | apply pw_below_drewN | apply below_drew1) | exact HB.out)⟩⟩
  case rest =>
    clear HC7
    try clear c1
    try clear c2
    try clear p2
    try clear c6
    try clear c11
    try clear c11b0
    try clear c11b1
    obtain ⟨kq, x29_6, rfl, HA, HJ6, HB⟩ := hcut
    cases kq with
    | zero => exact absurd HA.out (by simp [certpathlaw08_HostChains.j0])
    | succ kj6 =>
      have H := HA.out
      clear HA
      simp only [certpathlaw08_HostChains.j0] at H
      have HC12 := Aside0.mk H
      clear H
      go_upto_if 29 with (fail)
      go_cut [8, 9] (fun v8 v9 wc => ∃ (kq : Nat) (x8_11 : ByteArray) (x9_11 : ByteArray), v8 = .string x8_11 ∧ v9 = .string x9_11 ∧ Aside0 (certpathlaw08_HostChains.j1 kq t264 x8_11 x9_11 = some r) ∧ Aside0 (kq ≤ kj6) ∧ Aside0 (Below w.heap.size w wc))
      case first =>
        have H := HC12.out
        clear HC12
        by_cases c13 : x29_6 = true
        · subst c13
          have H1 : (if 0 ≤ (mn (l0.length : Int) 2) then (if (mn (l0.length : Int) 2) ≤ (l0.length : Int) then ((certpathlaw08_dns.f kj6 (l0.take ((mn (l0.length : Int) 2) : Int).toNat)).bind fun t268 => (if 1 ≤ (l0.length : Int) then ((certpathlaw08_dns.f kj6 (l0.take 1)).bind fun t270 => (certpathlaw08_HostChains.j1 kj6 t264 t268 t270)) else (none))) else (none)) else (none)) = some r := by rw [if_pos rfl] at H; exact H
          clear H
          have H := H1
          clear H1
          obtain ⟨ji14, hji14⟩ : ∃ j_ : Int, (mn (l0.length : Int) 2) = j_ := ⟨_, rfl⟩
          replace H : (if 0 ≤ (ji14) then (if (ji14) ≤ (l0.length : Int) then ((certpathlaw08_dns.f kj6 (l0.take ((ji14) : Int).toNat)).bind fun t268 => (if 1 ≤ (l0.length : Int) then ((certpathlaw08_dns.f kj6 (l0.take 1)).bind fun t270 => (certpathlaw08_HostChains.j1 kj6 t264 t268 t270)) else (none))) else (none)) else (none)) = some r := by first | (rw [hji14] at H; exact H) | (simp only [hji14] at H ⊢; exact H)
          have hji14_ : (if 2 < (l0.length : Int) then 2 else (l0.length : Int)) = ji14 := hji14
          by_cases c15 : 0 ≤ (ji14)
          · rw [if_pos c15] at H
            have c15b0 := eq_true c15
            have c15b1 : decide (0 ≤ (ji14)) = true := decide_eq_true c15
            clear c15
            by_cases c16 : (ji14) ≤ (l0.length : Int)
            · rw [if_pos c16] at H
              have c16b0 := eq_true c16
              have c16b1 : decide ((ji14) ≤ (l0.length : Int)) = true := decide_eq_true c16
              clear c16
              replace H := Option.bind_eq_some_iff.mp H
              obtain ⟨t268, A170, H⟩ := H
              replace H : (if 1 ≤ (l0.length : Int) then ((certpathlaw08_dns.f kj6 (l0.take 1)).bind fun t270 => (certpathlaw08_HostChains.j1 kj6 t264 t268 t270)) else (none)) = some r := H
              have A17 := Aside0.mk A170
              clear A170
              by_cases c18 : 1 ≤ (l0.length : Int)
              · rw [if_pos c18] at H
                have c18b0 := eq_true c18
                have c18b1 : decide (1 ≤ (l0.length : Int)) = true := decide_eq_true c18
                clear c18
                replace H := Option.bind_eq_some_iff.mp H
                obtain ⟨t270, A190, H⟩ := H
                replace H : (certpathlaw08_HostChains.j1 kj6 t264 t268 t270) = some r := H
                have A19 := Aside0.mk A190
                clear A190
                have H' := Aside0.mk H
                clear H
                try go_wp2
                have n0_ := Aside0.mk (below_drew1 HB.out)
                clear HB
                have HB := n0_
                clear n0_
                obtain ⟨i021, hi021, _, hsz21, _⟩ := info_parts info5
                obtain ⟨hcut21, hA21, hC21⟩ := print_take_of (P := Tryd.prog) (Value.int .u8) 0 22 5 .i64 Tryd.underlying22 hi021 hsz21 A0 c0 l0 (ji14) (of_decide_eq_true (by first | (with_reducible assumption) | assumption)) (of_decide_eq_true (by first | (with_reducible assumption) | assumption)) HC0.out
                have HR267 := Aside0.mk (Kd.C_of_reads (h1 := fun _ => rfl) (hA21 _ (Kd.reads_of_C HR0.out)))
                have HC267 := Aside0.mk hC21
                clear hA21 hC21 hi021 hsz21
                obtain ⟨i022, hi022, _, hsz22, _⟩ := info_parts info5
                obtain ⟨hcut22, hA22, hC22⟩ := print_take_of (P := Tryd.prog) (Value.int .u8) 0 22 5 .i64 Tryd.underlying22 hi022 hsz22 A0 c0 l0 1 (by omega) (of_decide_eq_true (by first | (with_reducible assumption) | assumption)) HC0.out
                have HR269 := Aside0.mk (Kd.C_of_reads (h1 := fun _ => rfl) (hA22 _ (Kd.reads_of_C HR0.out)))
                have HC269 := Aside0.mk hC22
                clear hA22 hC22 hi022 hsz22
                refine start_ (n := 11) (S := fun w' => True) (ds := []) #[false, false, false, false, false, false, false, false, false, false, false] (by kernel_rfl) rfl rfl trivial (fun hHeld => ?_); refine with_tabW certpathlaw08_HostChains.tab3 certpathlaw08_HostChains.bits3 (fun HT_ HW_ => ?_)
                generalize wc.drew = w20 at HB HR267 HR269 hHeld ⊢
                refine pure_ (i := 0) (N := some 30) (v := ?_) (a' := ?_) #[true, false, false, false, false, false, false, false, false, false, false] rfl rfl (any_of HT_.out (by kernel_rfl)) (fun _ _ _ h => h) (Or.inl ⟨by rfl, ?_⟩) ?_ ?_
                rotate_left
                · intro w'
                  go_simp
                  with_reducible rfl
                rotate_left
                · simp only [Act.put, List.setIfInBounds_toArray, List.set_cons_zero, List.set_cons_succ, i64_w, i32_w]
                  rfl
                refine pure_ (i := 1) (N := some 31) (v := ?_) (a' := ?_) #[true, true, false, false, false, false, false, false, false, false, false] rfl rfl (any_of HT_.out (by kernel_rfl)) (fun _ _ _ h => h) (Or.inl ⟨by rfl, ?_⟩) ?_ ?_
                rotate_left
                · intro w'
                  go_simp
                  with_reducible rfl
                rotate_left
                · simp only [Act.put, List.setIfInBounds_toArray, List.set_cons_zero, List.set_cons_succ, i64_w, i32_w]
                  rfl
                refine pure_ (i := 2) (N := some 32) (v := ?_) (a' := ?_) #[true, true, true, false, false, false, false, false, false, false, false] rfl rfl (any_of HT_.out (by kernel_rfl)) (fun _ _ _ h => h) (Or.inl ⟨by rfl, ?_⟩) ?_ ?_
                rotate_left
                · intro w'
                  go_simp
                  with_reducible rfl
                rotate_left
                · simp only [Act.put, List.setIfInBounds_toArray, List.set_cons_zero, List.set_cons_succ, i64_w, i32_w]
                  rfl
                refine pure_ (i := 3) (N := some 33) (v := ?_) (a' := ?_) #[true, true, true, true, false, false, false, false, false, false, false] rfl rfl (any_of HT_.out (by kernel_rfl)) (fun _ _ _ h => h) (Or.inl ⟨by rfl, ?_⟩) ?_ ?_
                rotate_left
                · intro w'
                  go_simp
                  with_reducible rfl
                rotate_left
                · simp only [Act.put, List.setIfInBounds_toArray, List.set_cons_zero, List.set_cons_succ, i64_w, i32_w]
                  rfl
                refine pure_ (i := 4) (N := some 34) (v := ?_) (a' := ?_) #[true, true, true, true, true, false, false, false, false, false, false] rfl rfl (any_of HT_.out (by kernel_rfl)) (fun _ _ _ h => h) (Or.inl ⟨by rfl, ?_⟩) ?_ ?_
                rotate_left
                · intro w'
                  go_simp
                  with_reducible rfl
                rotate_left
                · simp only [Act.put, List.setIfInBounds_toArray, List.set_cons_zero, List.set_cons_succ, i64_w, i32_w]
                  rfl
                refine pure_ (i := 6) (N := some 36) (v := ?_) (a' := ?_) #[true, true, true, true, true, false, true, false, false, false, false] rfl rfl (any_of HT_.out (by kernel_rfl)) (fun _ _ _ h => h) (Or.inl ⟨by rfl, ?_⟩) ?_ ?_
                rotate_left
                · intro w'
                  go_simp
                  with_reducible rfl
                rotate_left
                · simp only [Act.put, List.setIfInBounds_toArray, List.set_cons_zero, List.set_cons_succ, i64_w, i32_w]
                  rfl
                refine pure_ (i := 7) (N := some 37) (v := ?_) (a' := ?_) #[true, true, true, true, true, false, true, true, false, false, false] rfl rfl (any_of HT_.out (by kernel_rfl)) (fun _ _ _ h => h) (Or.inl ⟨by rfl, ?_⟩) ?_ ?_
                rotate_left
                · intro w'
                  go_simp
                  with_reducible rfl
                rotate_left
                · simp only [Act.put, List.setIfInBounds_toArray, List.set_cons_zero, List.set_cons_succ, i64_w, i32_w]
                  rfl
                refine one_ (i := 5) (N := some 35) #[true, true, true, true, true, true, true, true, false, false, false] rfl rfl (one_of HT_.out (by kernel_rfl)) (by decide) (fun K hK => ?_)
                refine goes_ Tryd.func12 (by kernel_rfl) rfl #[.slice A0 (l0.take ((ji14) : Int).toNat).length c0] (by rfl) rfl rfl (by (try simp only [List.map_toArray, List.map_cons, List.map_nil]); first | done | (rw [show (l0.take ((ji14) : Int).toNat).length = (ji14).toNat from (by rw [List.length_take]; have h_ : ((ji14) : Int) ≤ (l0.length : Int) := of_decide_eq_true (by first | (with_reducible assumption) | assumption); omega)] <;> rfl) | (simp only [hji14]; rfl) | rfl | (simp only [List.length_drop, List.length_take]; rfl)) ?_
                with_reducible refine (certpathlaw08_dns.calls kj6 _ _ (l0.take ((ji14) : Int).toNat) t268 _ ?side1 ?side2 ?side3 A17.out).mono ?_
                (case side1 => refine Ext.G.step ?_ hG_; repeat (first | (with_reducible first | exact HB.out | apply below_alloc | apply pw_below_drewN | apply below_drew1) | exact HB.out))
                (case side2 => repeat (first | exact (Kd.C_below HR267.out HB.out) | (with_reducible refine Kd.C_alloc ?_ _) | (with_reducible refine Kd.C_drewN ?_ _) | (with_reducible refine Kd.C_drew ?_)))
                (case side3 => exact HC267.out)
                rintro e w23 ⟨rfl, hb⟩
                refine ⟨_, rfl, ?_⟩
                have n0_ := Aside0.mk (below_step (by repeat (first | (with_reducible first | exact HB.out | apply below_alloc | apply pw_below_drewN | apply below_drew1) | exact HB.out)) hb)
                clear HB
                have HB := n0_
                clear n0_
                (try clear hb)
                (try clear hb2)
                (try clear hk)
                (try clear hi)
                refine hK.out _ _ trivial (fun hHeld => ?_)
                clear hK K
                refine norm_ (a' := ?_) ?_ ?_
                rotate_left
                · show Act.put _ (some 35) _ = _
                  simp only [Act.put, List.setIfInBounds_toArray, List.set_cons_zero, List.set_cons_succ, i64_w, i32_w]
                  rfl
                refine one_ (i := 8) (N := some 38) #[true, true, true, true, true, true, true, true, true, false, false] rfl rfl (one_of HT_.out (by kernel_rfl)) (by decide) (fun K hK => ?_)
                refine goes_ Tryd.func12 (by kernel_rfl) rfl #[.slice A0 (l0.take 1).length c0] (by rfl) rfl rfl (by (try simp only [List.map_toArray, List.map_cons, List.map_nil]); first | done | (rw [show (l0.take 1).length = 1 from (by rw [List.length_take]; have h_ : (1 : Int) ≤ (l0.length : Int) := of_decide_eq_true (by first | (with_reducible assumption) | assumption); omega)] <;> rfl) | rfl | (simp only [List.length_drop, List.length_take]; rfl)) ?_
                with_reducible refine (certpathlaw08_dns.calls kj6 _ _ (l0.take 1) t270 _ ?side1 ?side2 ?side3 A19.out).mono ?_
                (case side1 => refine Ext.G.step ?_ hG_; repeat (first | (with_reducible first | exact HB.out | apply below_alloc | apply pw_below_drewN | apply below_drew1) | exact HB.out))
                (case side2 => repeat (first | exact (Kd.C_below HR269.out HB.out) | (with_reducible refine Kd.C_alloc ?_ _) | (with_reducible refine Kd.C_drewN ?_ _) | (with_reducible refine Kd.C_drew ?_)))
                (case side3 => exact HC269.out)
                rintro e w24 ⟨rfl, hb⟩
                refine ⟨_, rfl, ?_⟩
                have n0_ := Aside0.mk (below_step (by repeat (first | (with_reducible first | exact HB.out | apply below_alloc | apply pw_below_drewN | apply below_drew1) | exact HB.out)) hb)
                clear HB
                have HB := n0_
                clear n0_
                (try clear hb)
                (try clear hb2)
                (try clear hk)
                (try clear hi)
                refine hK.out _ _ trivial (fun hHeld => ?_)
                clear hK K
                refine norm_ (a' := ?_) ?_ ?_
                rotate_left
                · show Act.put _ (some 38) _ = _
                  simp only [Act.put, List.setIfInBounds_toArray, List.set_cons_zero, List.set_cons_succ, i64_w, i32_w]
                  rfl
                refine pure_ (i := 9) (N := some 8) (v := ?_) (a' := ?_) #[true, true, true, true, true, true, true, true, true, true, false] rfl rfl (any_of HT_.out (by kernel_rfl)) (fun _ _ _ h => h) (Or.inl ⟨by rfl, ?_⟩) ?_ ?_
                rotate_left
                · intro w'
                  go_simp
                  with_reducible rfl
                rotate_left
                · simp only [Act.put, List.setIfInBounds_toArray, List.set_cons_zero, List.set_cons_succ, i64_w, i32_w]
                  rfl
                refine pure_ (i := 10) (N := some 9) (v := ?_) (a' := ?_) #[true, true, true, true, true, true, true, true, true, true, true] rfl rfl (any_of HT_.out (by kernel_rfl)) (fun _ _ _ h => h) (Or.inl ⟨by rfl, ?_⟩) ?_ ?_
                rotate_left
                · intro w'
                  go_simp
                  with_reducible rfl
                rotate_left
                · simp only [Act.put, List.setIfInBounds_toArray, List.set_cons_zero, List.set_cons_succ, i64_w, i32_w]
                  rfl
                refine done_ (done_of HT_.out (by kernel_rfl)) ?_
                try go_wp2
                go_meet
                case rel => exact ⟨_, (t268), (t270), (by first | rfl | (simp; done) | (simp [*]; done)), (by first | rfl | (simp; done) | (simp [*]; done)), H', ⟨by have := HJ6.out; first | omega | exact Nat.le_refl _⟩, ⟨by repeat (first | (with_reducible first | exact HB.out | apply below_alloc | apply pw_below_drewN | apply below_drew1) | exact HB.out)⟩⟩
              · rw [if_neg c18] at H
                exact absurd H (by simp)
            · rw [if_neg c16] at H
              exact absurd H (by simp)
          · rw [if_neg c15] at H
            exact absurd H (by simp)
        · replace c13 := Bool.eq_false_iff.mpr c13
          subst c13
          have H1 : (certpathlaw08_HostChains.j1 kj6 t264 t265 t266) = some r := by rw [if_neg (show ¬ (false = true) by decide)] at H; exact H
          clear H
          have H := H1
          clear H1
          have H' := Aside0.mk H
          clear H
          go_wp2
          go_meet
          case rel => exact ⟨_, (t265), (t266), (by first | rfl | (simp; done) | (simp [*]; done)), (by first | rfl | (simp; done) | (simp [*]; done)), H', ⟨by have := HJ6.out; first | omega | exact Nat.le_refl _⟩, ⟨by repeat (first | (with_reducible first | exact HB.out | apply below_alloc | apply pw_below_drewN | apply below_drew1) | exact HB.out)⟩⟩
      case rest =>
        clear HC12
        try clear c1
        try clear c2
        try clear p2
        try clear c6
        try clear c11
        try clear c11b0
        try clear c11b1
        try clear c12
        try clear c13
        try clear c15
        try clear c15b0
        try clear c15b1
        try clear c16
        try clear c16b0
        try clear c16b1
        try clear c18
        try clear c18b0
        try clear c18b1
        try clear p2
        obtain ⟨kq, x8_11, x9_11, rfl, rfl, HA, HJ11, HB⟩ := hcut
        cases kq with
        | zero => exact absurd HA.out (by simp [certpathlaw08_HostChains.j1])
        | succ kj11 =>
          have H := HA.out
          clear HA
          simp only [certpathlaw08_HostChains.j1] at H
          have HC25 := Aside0.mk H
          clear H
          go_upto_region 4 with (fail)
          go_cut [52] (fun v52 wc => ∃ (kq : Nat) (x52_24 : Bool), v52 = .bool x52_24 ∧ Aside0 (certpathlaw08_HostChains.j2 kq t264 x8_11 x9_11 x52_24 = some r) ∧ Aside0 (kq ≤ kj11) ∧ Aside0 (Below w.heap.size w wc))
          case first =>
            have H := HC25.out
            clear HC25
            replace H := Option.bind_eq_some_iff.mp H
            obtain ⟨t271, A260, H⟩ := H
            replace H : (if t271 = true then ((host_DNSWithin.f kj11 x8_11 x9_11).bind fun t272 => (if t272 = true then ((host_DNSWithin.f kj11 t264 x9_11).bind fun t273 => (certpathlaw08_HostChains.j2 kj11 t264 x8_11 x9_11 (!t273))) else (certpathlaw08_HostChains.j2 kj11 t264 x8_11 x9_11 false))) else (certpathlaw08_HostChains.j2 kj11 t264 x8_11 x9_11 false)) = some r := H
            have A26 := Aside0.mk A260
            clear A260
            by_cases c27 : t271 = true
            · subst c27
              have H1 : ((host_DNSWithin.f kj11 x8_11 x9_11).bind fun t272 => (if t272 = true then ((host_DNSWithin.f kj11 t264 x9_11).bind fun t273 => (certpathlaw08_HostChains.j2 kj11 t264 x8_11 x9_11 (!t273))) else (certpathlaw08_HostChains.j2 kj11 t264 x8_11 x9_11 false))) = some r := by rw [if_pos rfl] at H; exact H
              clear H
              have H := H1
              clear H1
              replace H := Option.bind_eq_some_iff.mp H
              obtain ⟨t272, A280, H⟩ := H
              replace H : (if t272 = true then ((host_DNSWithin.f kj11 t264 x9_11).bind fun t273 => (certpathlaw08_HostChains.j2 kj11 t264 x8_11 x9_11 (!t273))) else (certpathlaw08_HostChains.j2 kj11 t264 x8_11 x9_11 false)) = some r := H
              have A28 := Aside0.mk A280
              clear A280
              by_cases c29 : t272 = true
              · subst c29
                have H1 : ((host_DNSWithin.f kj11 t264 x9_11).bind fun t273 => (certpathlaw08_HostChains.j2 kj11 t264 x8_11 x9_11 (!t273))) = some r := by rw [if_pos rfl] at H; exact H
                clear H
                have H := H1
                clear H1
                replace H := Option.bind_eq_some_iff.mp H
                obtain ⟨t273, A300, H⟩ := H
                replace H : (certpathlaw08_HostChains.j2 kj11 t264 x8_11 x9_11 (!t273)) = some r := H
                have A30 := Aside0.mk A300
                clear A300
                have H' := Aside0.mk H
                clear H
                go_wp2_with (first | ((with_reducible refine gate_callee (f := 28) rfl ?_); refine goesL_ (some 41) rfl rfl Tryd.func28 (by kernel_rfl) rfl #[.string t264, .string x8_11] rfl (by (try simp only [List.map_toArray, List.map_cons, List.map_nil]); first | done | rfl | (simp only [List.length_drop, List.length_take]; rfl)) ?_; (with_reducible refine (host_DNSWithin.calls kj11 t264 x8_11 true _ ?side1 A26.out).mono ?_); (case side1 => refine Ext.G.step ?_ hG_; repeat (first | (with_reducible first | exact HB.out | apply below_alloc | apply pw_below_drewN | apply below_drew1) | exact HB.out)); rintro e w31 ⟨rfl, hb⟩; refine ⟨_, rfl, ?_⟩; have n0_ := Aside0.mk (below_step (by repeat (first | (with_reducible first | exact HB.out | apply below_alloc | apply pw_below_drewN | apply below_drew1) | exact HB.out)) hb); clear HB; have HB := n0_; clear n0_; (try clear hb); (try clear hb2); (try clear hk); (try clear hi)) | (go_at_call 28; (with_reducible refine (host_DNSWithin.calls kj11 x8_11 x9_11 true _ ?side1 A28.out).mono ?_); (case side1 => refine Ext.G.step ?_ hG_; repeat (first | (with_reducible first | exact HB.out | apply below_alloc | apply pw_below_drewN | apply below_drew1) | exact HB.out)); rintro e w32 ⟨rfl, hb⟩; have n0_ := Aside0.mk (below_step (by repeat (first | (with_reducible first | exact HB.out | apply below_alloc | apply pw_below_drewN | apply below_drew1) | exact HB.out)) hb); clear HB; have HB := n0_; clear n0_; (try clear hb); (try clear hb2); (try clear hk); (try clear hi)) | (go_at_call 28; (with_reducible refine (host_DNSWithin.calls kj11 t264 x9_11 t273 _ ?side1 A30.out).mono ?_); (case side1 => refine Ext.G.step ?_ hG_; repeat (first | (with_reducible first | exact HB.out | apply below_alloc | apply pw_below_drewN | apply below_drew1) | exact HB.out)); rintro e w33 ⟨rfl, hb⟩; have n0_ := Aside0.mk (below_step (by repeat (first | (with_reducible first | exact HB.out | apply below_alloc | apply pw_below_drewN | apply below_drew1) | exact HB.out)) hb); clear HB; have HB := n0_; clear n0_; (try clear hb); (try clear hb2); (try clear hk); (try clear hi)))
                go_meet
                case rel => exact ⟨_, (!t273), (by first | rfl | (simp; done) | (simp [*]; done)), H', ⟨by have := HJ6.out; have := HJ11.out; first | omega | exact Nat.le_refl _⟩, ⟨by repeat (first | (with_reducible first | exact HB.out | apply below_alloc | apply pw_below_drewN | apply below_drew1) | exact HB.out)⟩⟩
              · replace c29 := Bool.eq_false_iff.mpr c29
                subst c29
                have H1 : (certpathlaw08_HostChains.j2 kj11 t264 x8_11 x9_11 false) = some r := by rw [if_neg (show ¬ (false = true) by decide)] at H; exact H
                clear H
                have H := H1
                clear H1
                have H' := Aside0.mk H
                clear H
                go_wp2_with (first | ((with_reducible refine gate_callee (f := 28) rfl ?_); refine goesL_ (some 41) rfl rfl Tryd.func28 (by kernel_rfl) rfl #[.string t264, .string x8_11] rfl (by (try simp only [List.map_toArray, List.map_cons, List.map_nil]); first | done | rfl | (simp only [List.length_drop, List.length_take]; rfl)) ?_; (with_reducible refine (host_DNSWithin.calls kj11 t264 x8_11 true _ ?side1 A26.out).mono ?_); (case side1 => refine Ext.G.step ?_ hG_; repeat (first | (with_reducible first | exact HB.out | apply below_alloc | apply pw_below_drewN | apply below_drew1) | exact HB.out)); rintro e w34 ⟨rfl, hb⟩; refine ⟨_, rfl, ?_⟩; have n0_ := Aside0.mk (below_step (by repeat (first | (with_reducible first | exact HB.out | apply below_alloc | apply pw_below_drewN | apply below_drew1) | exact HB.out)) hb); clear HB; have HB := n0_; clear n0_; (try clear hb); (try clear hb2); (try clear hk); (try clear hi)) | (go_at_call 28; (with_reducible refine (host_DNSWithin.calls kj11 x8_11 x9_11 false _ ?side1 A28.out).mono ?_); (case side1 => refine Ext.G.step ?_ hG_; repeat (first | (with_reducible first | exact HB.out | apply below_alloc | apply pw_below_drewN | apply below_drew1) | exact HB.out)); rintro e w35 ⟨rfl, hb⟩; have n0_ := Aside0.mk (below_step (by repeat (first | (with_reducible first | exact HB.out | apply below_alloc | apply pw_below_drewN | apply below_drew1) | exact HB.out)) hb); clear HB; have HB := n0_; clear n0_; (try clear hb); (try clear hb2); (try clear hk); (try clear hi)))
                go_meet
                case rel => exact ⟨_, (false), (by first | rfl | (simp; done) | (simp [*]; done)), H', ⟨by have := HJ6.out; have := HJ11.out; first | omega | exact Nat.le_refl _⟩, ⟨by repeat (first | (with_reducible first | exact HB.out | apply below_alloc | apply pw_below_drewN | apply below_drew1) | exact HB.out)⟩⟩
            · replace c27 := Bool.eq_false_iff.mpr c27
              subst c27
              have H1 : (certpathlaw08_HostChains.j2 kj11 t264 x8_11 x9_11 false) = some r := by rw [if_neg (show ¬ (false = true) by decide)] at H; exact H
              clear H
              have H := H1
              clear H1
              have H' := Aside0.mk H
              clear H
              go_wp2_with (first | ((with_reducible refine gate_callee (f := 28) rfl ?_); refine goesL_ (some 41) rfl rfl Tryd.func28 (by kernel_rfl) rfl #[.string t264, .string x8_11] rfl (by (try simp only [List.map_toArray, List.map_cons, List.map_nil]); first | done | rfl | (simp only [List.length_drop, List.length_take]; rfl)) ?_; (with_reducible refine (host_DNSWithin.calls kj11 t264 x8_11 false _ ?side1 A26.out).mono ?_); (case side1 => refine Ext.G.step ?_ hG_; repeat (first | (with_reducible first | exact HB.out | apply below_alloc | apply pw_below_drewN | apply below_drew1) | exact HB.out)); rintro e w36 ⟨rfl, hb⟩; refine ⟨_, rfl, ?_⟩; have n0_ := Aside0.mk (below_step (by repeat (first | (with_reducible first | exact HB.out | apply below_alloc | apply pw_below_drewN | apply below_drew1) | exact HB.out)) hb); clear HB; have HB := n0_; clear n0_; (try clear hb); (try clear hb2); (try clear hk); (try clear hi)))
              go_meet
              case rel => exact ⟨_, (false), (by first | rfl | (simp; done) | (simp [*]; done)), H', ⟨by have := HJ6.out; have := HJ11.out; first | omega | exact Nat.le_refl _⟩, ⟨by repeat (first | (with_reducible first | exact HB.out | apply below_alloc | apply pw_below_drewN | apply below_drew1) | exact HB.out)⟩⟩
          case rest =>
            clear HC25
            try clear c1
            try clear c2
            try clear p2
            try clear c6
            try clear c11
            try clear c11b0
            try clear c11b1
            try clear c12
            try clear c13
            try clear c15
            try clear c15b0
            try clear c15b1
            try clear c16
            try clear c16b0
            try clear c16b1
            try clear c18
            try clear c18b0
            try clear c18b1
            try clear c27
            try clear c28
            try clear c29
            try clear p2
            obtain ⟨kq, x52_24, rfl, HA, HJ24, HB⟩ := hcut
            cases kq with
            | zero => exact absurd HA.out (by simp [certpathlaw08_HostChains.j2])
            | succ kj24 =>
              have H := HA.out
              clear HA
              simp only [certpathlaw08_HostChains.j2] at H
              by_cases c37 : x52_24 = true
              · subst c37
                have H1 : (some false) = some r := by rw [if_pos rfl] at H; exact H
                clear H
                have H := H1
                clear H1
                obtain rfl := Option.some.inj H
                go_wp2
                go_ret
                exact ⟨by first | rfl | (simp [errW_none, errW_some] <;> rfl) | (simp [*, errW_none, errW_some] <;> rfl), by repeat (first | (with_reducible first | exact HB.out | apply below_alloc | apply pw_below_drewN | apply below_drew1) | exact HB.out)⟩
              · replace c37 := Bool.eq_false_iff.mpr c37
                subst c37
                have H1 : (if 4 + t264.size ≤ 9223372036854775807 then (if 1 + t264.size ≤ 9223372036854775807 then ((some (([(⟨#[97, 110, 110, 64]⟩ : ByteArray) ++ t264, t264, (⟨#[46]⟩ : ByteArray) ++ t264] : List ByteArray) : List ByteArray)).bind fun y274 => (certpathlaw08_HostChains.l0 kj24 x8_11 x9_11 y274 (y274.length : Int) 0)) else (none)) else (none)) = some r := by rw [if_neg (show ¬ (false = true) by decide)] at H; exact H
                clear H
                have H := H1
                clear H1
                by_cases c38 : 4 + t264.size ≤ 9223372036854775807
                · rw [if_pos c38] at H
                  have c38b0 := eq_true c38
                  have c38b1 : decide (4 + t264.size ≤ 9223372036854775807) = true := decide_eq_true c38
                  try have c38b2 : (9223372036854775807 < 4 + t264.size) = False := eq_false (Nat.not_lt.2 c38)
                  by_cases c39 : 1 + t264.size ≤ 9223372036854775807
                  · rw [if_pos c39] at H
                    have c39b0 := eq_true c39
                    have c39b1 : decide (1 + t264.size ≤ 9223372036854775807) = true := decide_eq_true c39
                    try have c39b2 : (9223372036854775807 < 1 + t264.size) = False := eq_false (Nat.not_lt.2 c39)
                    obtain ⟨y274, hy274⟩ : ∃ y_ : List ByteArray, y_ = (([(⟨#[97, 110, 110, 64]⟩ : ByteArray) ++ t264, t264, (⟨#[46]⟩ : ByteArray) ++ t264] : List ByteArray)) := ⟨_, rfl⟩
                    replace H : (certpathlaw08_HostChains.l0 kj24 x8_11 x9_11 y274 (y274.length : Int) 0) = some r := by first | (rw [hy274]; with_reducible exact H) | (have H2_ := (Option.bind_some _ _).symm.trans H; rw [hy274]; with_reducible exact H2_) | (have H2_ := (Option.bind_some _ _).symm.trans H; with_reducible exact H2_) | with_reducible exact H | (rw [hy274]; exact H) | exact H
                    have Ny274 := Aside0.mk hy274
                    clear hy274
                    have H' := Aside0.mk H
                    clear H
                    go_wp2_with (first | ((with_reducible refine gate_dst (N := 58) rfl ?_); (try (refine gate_guard (by rfl) ?_; dsimp only)); refine Kd.R_lit Kd.string _ 9 ?hg (N := 58) ?hd (xs := ([(⟨#[97, 110, 110, 64]⟩ : ByteArray) ++ t264, t264, (⟨#[46]⟩ : ByteArray) ++ t264] : List ByteArray)) (inner := [.string ((⟨#[97, 110, 110, 64]⟩ : ByteArray) ++ t264), .string t264, .string ((⟨#[46]⟩ : ByteArray) ++ t264)]) (ok := fun _ => True) (okp := fun _ => True) ?hr ?hp (fun _ hk => hk) trivial (Below.refl _ _) (Nat.le_refl _) (by simp) ?_; (case hd => rfl); (case hg => rfl); (case hr => first | (go_simp; done) | (go_simp; rfl)); (case hp => exact (Reps.one (show Kd.M Kd.string _ _ _ ((⟨#[97, 110, 110, 64]⟩ : ByteArray) ++ t264) [.string ((⟨#[97, 110, 110, 64]⟩ : ByteArray) ++ t264)] from rfl) (Reps.one (show Kd.M Kd.string _ _ _ t264 [.string t264] from rfl) (Reps.one (show Kd.M Kd.string _ _ _ ((⟨#[46]⟩ : ByteArray) ++ t264) [.string ((⟨#[46]⟩ : ByteArray) ++ t264)] from rfl) (Reps.none _ _))))); intro v275 w40 ho41 hb hg_ hnew_; clear hg_ hnew_; (first | rw [← Ny274.out] at ho41 | (simp only [Int.reduceToNat] at ho41; rw [← Ny274.out] at ho41)); have n0_ := Aside0.mk (Kd.R_lower ho41 (below_size (by repeat (first | (with_reducible first | exact HB.out | apply below_alloc | apply pw_below_drewN | apply below_drew1) | exact HB.out)))); have n1_ := Aside0.mk (below_step (by repeat (first | (with_reducible first | exact HB.out | apply below_alloc | apply pw_below_drewN | apply below_drew1) | exact HB.out)) hb); clear HB; have HO276 := n0_; have HB := n1_; clear n0_ n1_; clear hb ho41; obtain ⟨Ao42, co42, eo42⟩ := Kd.R_slice HO276.out; subst eo42))
                    go_loopg [60] kj24 (fun kq v60 w' => ∃ (x60_4 : Int), v60 = .int .i64 x60_4 ∧ Aside0 (certpathlaw08_HostChains.l0 kq x8_11 x9_11 y274 (y274.length : Int) x60_4 = some r) ∧ Aside0 (kq ≤ kj24) ∧ Aside0 (Kd.R Kd.string 9 w' w.heap.size (fun _ => True) (.slice Ao42 y274.length co42) y274) ∧ Aside0 (Below w.heap.size w w'))
                    case atStart => exact ⟨(0), (by first | rfl | (simp; done) | (simp [*]; done)), H', ⟨Nat.le_refl _⟩, ⟨by (with_reducible repeat (first | apply Kd.R_alloc | apply Kd.R_drewN | apply Kd.R_drew)); exact HO276.out⟩, ⟨by repeat (first | (with_reducible first | exact HB.out | apply below_alloc | apply pw_below_drewN | apply below_drew1) | exact HB.out)⟩⟩
                    case round =>
                      clear H'
                      try clear c1
                      try clear c2
                      try clear p2
                      try clear c3
                      try clear c6
                      try clear c11
                      try clear c11b0
                      try clear c11b1
                      try clear c12
                      try clear c13
                      try clear c15
                      try clear c15b0
                      try clear c15b1
                      try clear c16
                      try clear c16b0
                      try clear c16b1
                      try clear c18
                      try clear c18b0
                      try clear c18b1
                      try clear c27
                      try clear c28
                      try clear c29
                      try clear c37
                      try clear c38
                      try clear c38b0
                      try clear c38b1
                      try clear c38b2
                      try clear c39
                      try clear c39b0
                      try clear c39b1
                      try clear c39b2
                      try clear p2
                      obtain ⟨x60_4, rfl, HA, HK4, HO_58, HB⟩ := hrel
                      cases gk with
                      | zero => exact absurd HA.out (by simp [certpathlaw08_HostChains.l0])
                      | succ k4 =>
                        have H := HA.out
                        clear HA
                        simp only [certpathlaw08_HostChains.l0] at H
                        by_cases c43 : x60_4 < (y274.length : Int)
                        · rw [if_pos c43] at H
                          have c43b0 : decide (x60_4 < (y274.length : Int)) = true := decide_eq_true c43
                          clear c43
                          by_cases c44 : 0 ≤ x60_4
                          · rw [if_pos c44] at H
                            have c44b0 : decide (0 ≤ x60_4) = true := decide_eq_true c44
                            clear c44
                            by_cases c45 : x60_4 < (y274.length : Int)
                            · rw [if_pos c45] at H
                              have c45b0 : decide (x60_4 < (y274.length : Int)) = true := decide_eq_true c45
                              clear c45
                              by_cases c46 : 4 + x8_11.size ≤ 9223372036854775807
                              · rw [if_pos c46] at H
                                have c46b0 := eq_true c46
                                have c46b1 : decide (4 + x8_11.size ≤ 9223372036854775807) = true := decide_eq_true c46
                                try have c46b2 : (9223372036854775807 < 4 + x8_11.size) = False := eq_false (Nat.not_lt.2 c46)
                                by_cases c47 : 1 + x8_11.size ≤ 9223372036854775807
                                · rw [if_pos c47] at H
                                  have c47b0 := eq_true c47
                                  have c47b1 : decide (1 + x8_11.size ≤ 9223372036854775807) = true := decide_eq_true c47
                                  try have c47b2 : (9223372036854775807 < 1 + x8_11.size) = False := eq_false (Nat.not_lt.2 c47)
                                  obtain ⟨y279, hy279⟩ : ∃ y_ : List ByteArray, y_ = (([(⟨#[97, 110, 110, 64]⟩ : ByteArray) ++ x8_11, x8_11, (⟨#[46]⟩ : ByteArray) ++ x8_11] : List ByteArray)) := ⟨_, rfl⟩
                                  replace H : (certpathlaw08_HostChains.l1 k4 x8_11 x9_11 (rdOf ByteArray.empty y274 x60_4) y274 (y274.length : Int) x60_4 y279 (y279.length : Int) 0) = some r := by first | (rw [hy279]; with_reducible exact H) | (have H2_ := (Option.bind_some _ _).symm.trans H; rw [hy279]; with_reducible exact H2_) | (have H2_ := (Option.bind_some _ _).symm.trans H; with_reducible exact H2_) | with_reducible exact H | (rw [hy279]; exact H) | exact H
                                  have Ny279 := Aside0.mk hy279
                                  clear hy279
                                  have H' := Aside0.mk H
                                  clear H
                                  have p278 : 0 ≤ (x60_4 : Int) := of_decide_eq_true (by first | (with_reducible assumption) | assumption)
                                  have q278 : x60_4 < (y274.length : Int) := of_decide_eq_true (by first | (with_reducible assumption) | assumption)
                                  obtain ⟨ad278, e278, hx278_0⟩ := Kd.at_string (Kd.R_reads' HO_58.out).2.2 x60_4 p278 q278
                                  cases e278
                                  replace p278 := eq_true p278
                                  replace q278 := eq_true q278
                                  go_wp2_with (first | ((with_reducible refine gate_dst (N := 69) rfl ?_); (try (refine gate_guard (by rfl) ?_; dsimp only)); refine Kd.R_lit Kd.string _ 9 ?hg (N := 69) ?hd (xs := ([(⟨#[97, 110, 110, 64]⟩ : ByteArray) ++ x8_11, x8_11, (⟨#[46]⟩ : ByteArray) ++ x8_11] : List ByteArray)) (inner := [.string ((⟨#[97, 110, 110, 64]⟩ : ByteArray) ++ x8_11), .string x8_11, .string ((⟨#[46]⟩ : ByteArray) ++ x8_11)]) (ok := fun _ => True) (okp := fun _ => True) ?hr ?hp (fun _ hk => hk) trivial (Below.refl _ _) (Nat.le_refl _) (by simp) ?_; (case hd => rfl); (case hg => rfl); (case hr => first | (go_simp; done) | (go_simp; rfl)); (case hp => exact (Reps.one (show Kd.M Kd.string _ _ _ ((⟨#[97, 110, 110, 64]⟩ : ByteArray) ++ x8_11) [.string ((⟨#[97, 110, 110, 64]⟩ : ByteArray) ++ x8_11)] from rfl) (Reps.one (show Kd.M Kd.string _ _ _ x8_11 [.string x8_11] from rfl) (Reps.one (show Kd.M Kd.string _ _ _ ((⟨#[46]⟩ : ByteArray) ++ x8_11) [.string ((⟨#[46]⟩ : ByteArray) ++ x8_11)] from rfl) (Reps.none _ _))))); intro v280 w48 ho49 hb hg_ hnew_; clear hg_ hnew_; (first | rw [← Ny279.out] at ho49 | (simp only [Int.reduceToNat] at ho49; rw [← Ny279.out] at ho49)); have n0_ := Aside0.mk (Kd.R_elder' (by (with_reducible repeat (first | apply Kd.R_alloc | apply Kd.R_drewN | apply Kd.R_drew)); exact HO_58.out) (Kd.R_base ho49) hb); have n1_ := Aside0.mk (Kd.R_lower (Kd.R_new' ho49 (Kd.R_lt (by (with_reducible repeat (first | apply Kd.R_alloc | apply Kd.R_drewN | apply Kd.R_drew)); exact HO_58.out))) (below_size (by repeat (first | (with_reducible first | exact HB.out | apply below_alloc | apply pw_below_drewN | apply below_drew1) | exact HB.out)))); have n2_ := Aside0.mk (below_step (by repeat (first | (with_reducible first | exact HB.out | apply below_alloc | apply pw_below_drewN | apply below_drew1) | exact HB.out)) hb); clear HO_58; clear HB; have HO_58 := n0_; have HO281 := n1_; have HB := n2_; clear n0_ n1_ n2_; clear hb ho49; obtain ⟨Ao50, co50, eo50⟩ := Kd.R_slice HO281.out; subst eo50))
                                  go_loopg [71] k4 (fun kq v71 w' => ∃ (x71_5 : Int), v71 = .int .i64 x71_5 ∧ Aside0 (certpathlaw08_HostChains.l1 kq x8_11 x9_11 (rdOf ByteArray.empty y274 x60_4) y274 (y274.length : Int) x60_4 y279 (y279.length : Int) x71_5 = some r) ∧ Aside0 (kq ≤ k4) ∧ Aside0 (Kd.R Kd.string 9 w' w.heap.size (fun k_ => some k_ ≠ ((.slice Ao50 y279.length co50) : Value).ownBlock) (.slice (some ad278) y274.length co42) y274) ∧ Aside0 (Kd.R Kd.string 9 w' w.heap.size (fun k_ => some k_ ≠ ((.slice (some ad278) y274.length co42) : Value).ownBlock) (.slice Ao50 y279.length co50) y279) ∧ Aside0 (Below w.heap.size w w'))
                                  case atStart => exact ⟨(0), (by first | rfl | (simp; done) | (simp [*]; done)), H', ⟨Nat.le_refl _⟩, ⟨by (with_reducible repeat (first | apply Kd.R_alloc | apply Kd.R_drewN | apply Kd.R_drew)); exact Kd.R_mono HO_58.out (fun _ hk => hk.2)⟩, ⟨by (with_reducible repeat (first | apply Kd.R_alloc | apply Kd.R_drewN | apply Kd.R_drew)); exact Kd.R_mono HO281.out (fun _ hk => hk.2)⟩, ⟨by repeat (first | (with_reducible first | exact HB.out | apply below_alloc | apply pw_below_drewN | apply below_drew1) | exact HB.out)⟩⟩
                                  case round =>
                                    clear H'
                                    try clear c1
                                    try clear c2
                                    try clear p2
                                    try clear q2
                                    try clear hx2
                                    try clear c3
                                    try clear c4
                                    try clear c6
                                    try clear c11
                                    try clear c11b0
                                    try clear c11b1
                                    try clear c12
                                    try clear c13
                                    try clear c15
                                    try clear c15b0
                                    try clear c15b1
                                    try clear c16
                                    try clear c16b0
                                    try clear c16b1
                                    try clear c18
                                    try clear c18b0
                                    try clear c18b1
                                    try clear c27
                                    try clear p27
                                    try clear q27
                                    try clear hx27
                                    try clear c28
                                    try clear c29
                                    try clear c37
                                    try clear c38
                                    try clear c38b0
                                    try clear c38b1
                                    try clear c38b2
                                    try clear c39
                                    try clear c39b0
                                    try clear c39b1
                                    try clear c39b2
                                    try clear c43
                                    try clear c43b0
                                    try clear c44
                                    try clear c44b0
                                    try clear c45
                                    try clear c45b0
                                    try clear c46
                                    try clear c46b0
                                    try clear c46b1
                                    try clear c46b2
                                    try clear c47
                                    try clear c47b0
                                    try clear c47b1
                                    try clear c47b2
                                    try clear hx278_0
                                    try clear p2
                                    try clear p278
                                    try clear q278
                                    obtain ⟨x71_5, rfl, HA, HK5, HO_58, HO_69, HB⟩ := hrel
                                    cases gk with
                                    | zero => exact absurd HA.out (by simp [certpathlaw08_HostChains.l1])
                                    | succ k5 =>
                                      have H := HA.out
                                      clear HA
                                      simp only [certpathlaw08_HostChains.l1] at H
                                      by_cases c51 : x71_5 < (y279.length : Int)
                                      · rw [if_pos c51] at H
                                        have c51b0 : decide (x71_5 < (y279.length : Int)) = true := decide_eq_true c51
                                        clear c51
                                        by_cases c52 : 0 ≤ x71_5
                                        · rw [if_pos c52] at H
                                          have c52b0 : decide (0 ≤ x71_5) = true := decide_eq_true c52
                                          clear c52
                                          by_cases c53 : x71_5 < (y279.length : Int)
                                          · rw [if_pos c53] at H
                                            have c53b0 : decide (x71_5 < (y279.length : Int)) = true := decide_eq_true c53
                                            clear c53
                                            by_cases c54 : 4 + x9_11.size ≤ 9223372036854775807
                                            · rw [if_pos c54] at H
                                              have c54b0 := eq_true c54
                                              have c54b1 : decide (4 + x9_11.size ≤ 9223372036854775807) = true := decide_eq_true c54
                                              try have c54b2 : (9223372036854775807 < 4 + x9_11.size) = False := eq_false (Nat.not_lt.2 c54)
                                              by_cases c55 : 1 + x9_11.size ≤ 9223372036854775807
                                              · rw [if_pos c55] at H
                                                have c55b0 := eq_true c55
                                                have c55b1 : decide (1 + x9_11.size ≤ 9223372036854775807) = true := decide_eq_true c55
                                                try have c55b2 : (9223372036854775807 < 1 + x9_11.size) = False := eq_false (Nat.not_lt.2 c55)
                                                obtain ⟨y283, hy283⟩ : ∃ y_ : List ByteArray, y_ = (([(⟨#[97, 110, 110, 64]⟩ : ByteArray) ++ x9_11, x9_11, (⟨#[46]⟩ : ByteArray) ++ x9_11] : List ByteArray)) := ⟨_, rfl⟩
                                                replace H : (certpathlaw08_HostChains.l2 k5 x8_11 x9_11 (rdOf ByteArray.empty y274 x60_4) (rdOf ByteArray.empty y279 x71_5) y274 (y274.length : Int) x60_4 y279 (y279.length : Int) x71_5 y283 (y283.length : Int) 0) = some r := by first | (rw [hy283]; with_reducible exact H) | (have H2_ := (Option.bind_some _ _).symm.trans H; rw [hy283]; with_reducible exact H2_) | (have H2_ := (Option.bind_some _ _).symm.trans H; with_reducible exact H2_) | with_reducible exact H | (rw [hy283]; exact H) | exact H
                                                have Ny283 := Aside0.mk hy283
                                                clear hy283
                                                have H' := Aside0.mk H
                                                clear H
                                                have p282 : 0 ≤ (x71_5 : Int) := of_decide_eq_true (by first | (with_reducible assumption) | assumption)
                                                have q282 : x71_5 < (y279.length : Int) := of_decide_eq_true (by first | (with_reducible assumption) | assumption)
                                                obtain ⟨ad282, e282, hx282_0⟩ := Kd.at_string (Kd.R_reads' HO_69.out).2.2 x71_5 p282 q282
                                                cases e282
                                                replace p282 := eq_true p282
                                                replace q282 := eq_true q282
                                                go_wp2_with (first | ((with_reducible refine gate_dst (N := 80) rfl ?_); (try (refine gate_guard (by rfl) ?_; dsimp only)); refine Kd.R_lit Kd.string _ 9 ?hg (N := 80) ?hd (xs := ([(⟨#[97, 110, 110, 64]⟩ : ByteArray) ++ x9_11, x9_11, (⟨#[46]⟩ : ByteArray) ++ x9_11] : List ByteArray)) (inner := [.string ((⟨#[97, 110, 110, 64]⟩ : ByteArray) ++ x9_11), .string x9_11, .string ((⟨#[46]⟩ : ByteArray) ++ x9_11)]) (ok := fun _ => True) (okp := fun _ => True) ?hr ?hp (fun _ hk => hk) trivial (Below.refl _ _) (Nat.le_refl _) (by simp) ?_; (case hd => rfl); (case hg => rfl); (case hr => first | (go_simp; done) | (go_simp; rfl)); (case hp => exact (Reps.one (show Kd.M Kd.string _ _ _ ((⟨#[97, 110, 110, 64]⟩ : ByteArray) ++ x9_11) [.string ((⟨#[97, 110, 110, 64]⟩ : ByteArray) ++ x9_11)] from rfl) (Reps.one (show Kd.M Kd.string _ _ _ x9_11 [.string x9_11] from rfl) (Reps.one (show Kd.M Kd.string _ _ _ ((⟨#[46]⟩ : ByteArray) ++ x9_11) [.string ((⟨#[46]⟩ : ByteArray) ++ x9_11)] from rfl) (Reps.none _ _))))); intro v284 w56 ho57 hb hg_ hnew_; clear hg_ hnew_; (first | rw [← Ny283.out] at ho57 | (simp only [Int.reduceToNat] at ho57; rw [← Ny283.out] at ho57)); have n0_ := Aside0.mk (Kd.R_elder' (by (with_reducible repeat (first | apply Kd.R_alloc | apply Kd.R_drewN | apply Kd.R_drew)); exact HO_58.out) (Kd.R_base ho57) hb); have n1_ := Aside0.mk (Kd.R_elder' (by (with_reducible repeat (first | apply Kd.R_alloc | apply Kd.R_drewN | apply Kd.R_drew)); exact HO_69.out) (Kd.R_base ho57) hb); have n2_ := Aside0.mk (Kd.R_lower (Kd.R_new' (Kd.R_new' ho57 (Kd.R_lt (by (with_reducible repeat (first | apply Kd.R_alloc | apply Kd.R_drewN | apply Kd.R_drew)); exact HO_58.out))) (Kd.R_lt (by (with_reducible repeat (first | apply Kd.R_alloc | apply Kd.R_drewN | apply Kd.R_drew)); exact HO_69.out))) (below_size (by repeat (first | (with_reducible first | exact HB.out | apply below_alloc | apply pw_below_drewN | apply below_drew1) | exact HB.out)))); have n3_ := Aside0.mk (below_step (by repeat (first | (with_reducible first | exact HB.out | apply below_alloc | apply pw_below_drewN | apply below_drew1) | exact HB.out)) hb); clear HO_58; clear HO_69; clear HB; have HO_58 := n0_; have HO_69 := n1_; have HO285 := n2_; have HB := n3_; clear n0_ n1_ n2_ n3_; clear hb ho57; obtain ⟨Ao58, co58, eo58⟩ := Kd.R_slice HO285.out; subst eo58))
                                                go_loopg [82] k5 (fun kq v82 w' => ∃ (x82_6 : Int), v82 = .int .i64 x82_6 ∧ Aside0 (certpathlaw08_HostChains.l2 kq x8_11 x9_11 (rdOf ByteArray.empty y274 x60_4) (rdOf ByteArray.empty y279 x71_5) y274 (y274.length : Int) x60_4 y279 (y279.length : Int) x71_5 y283 (y283.length : Int) x82_6 = some r) ∧ Aside0 (kq ≤ k5) ∧ Aside0 (Kd.R Kd.string 9 w' w.heap.size (fun k_ => some k_ ≠ ((.slice (some ad282) y279.length co50) : Value).ownBlock ∧ some k_ ≠ ((.slice Ao58 y283.length co58) : Value).ownBlock) (.slice (some ad278) y274.length co42) y274) ∧ Aside0 (Kd.R Kd.string 9 w' w.heap.size (fun k_ => some k_ ≠ ((.slice (some ad278) y274.length co42) : Value).ownBlock ∧ some k_ ≠ ((.slice Ao58 y283.length co58) : Value).ownBlock) (.slice (some ad282) y279.length co50) y279) ∧ Aside0 (Kd.R Kd.string 9 w' w.heap.size (fun k_ => some k_ ≠ ((.slice (some ad278) y274.length co42) : Value).ownBlock ∧ some k_ ≠ ((.slice (some ad282) y279.length co50) : Value).ownBlock) (.slice Ao58 y283.length co58) y283) ∧ Aside0 (Below w.heap.size w w'))
                                                case atStart => exact ⟨(0), (by first | rfl | (simp; done) | (simp [*]; done)), H', ⟨Nat.le_refl _⟩, ⟨by (with_reducible repeat (first | apply Kd.R_alloc | apply Kd.R_drewN | apply Kd.R_drew)); exact HO_58.out⟩, ⟨by (with_reducible repeat (first | apply Kd.R_alloc | apply Kd.R_drewN | apply Kd.R_drew)); exact HO_69.out⟩, ⟨by (with_reducible repeat (first | apply Kd.R_alloc | apply Kd.R_drewN | apply Kd.R_drew)); exact Kd.R_mono HO285.out (fun _ hk => ⟨hk.1.2, hk.2⟩)⟩, ⟨by repeat (first | (with_reducible first | exact HB.out | apply below_alloc | apply pw_below_drewN | apply below_drew1) | exact HB.out)⟩⟩
                                                case round =>
                                                  clear H'
                                                  try clear c1
                                                  try clear c2
                                                  try clear p2
                                                  try clear q2
                                                  try clear hx2
                                                  try clear c3
                                                  try clear c4
                                                  try clear c5
                                                  try clear c6
                                                  try clear c11
                                                  try clear c11b0
                                                  try clear c11b1
                                                  try clear c12
                                                  try clear c13
                                                  try clear c15
                                                  try clear c15b0
                                                  try clear c15b1
                                                  try clear c16
                                                  try clear c16b0
                                                  try clear c16b1
                                                  try clear c18
                                                  try clear c18b0
                                                  try clear c18b1
                                                  try clear c27
                                                  try clear p27
                                                  try clear q27
                                                  try clear hx27
                                                  try clear c28
                                                  try clear p28
                                                  try clear q28
                                                  try clear hx28
                                                  try clear c29
                                                  try clear c37
                                                  try clear c38
                                                  try clear c38b0
                                                  try clear c38b1
                                                  try clear c38b2
                                                  try clear c39
                                                  try clear c39b0
                                                  try clear c39b1
                                                  try clear c39b2
                                                  try clear c43
                                                  try clear c43b0
                                                  try clear c44
                                                  try clear c44b0
                                                  try clear c45
                                                  try clear c45b0
                                                  try clear c46
                                                  try clear c46b0
                                                  try clear c46b1
                                                  try clear c46b2
                                                  try clear c47
                                                  try clear c47b0
                                                  try clear c47b1
                                                  try clear c47b2
                                                  try clear c51
                                                  try clear c51b0
                                                  try clear c52
                                                  try clear c52b0
                                                  try clear c53
                                                  try clear c53b0
                                                  try clear c54
                                                  try clear c54b0
                                                  try clear c54b1
                                                  try clear c54b2
                                                  try clear c55
                                                  try clear c55b0
                                                  try clear c55b1
                                                  try clear c55b2
                                                  try clear hx278_0
                                                  try clear hx282_0
                                                  try clear p2
                                                  try clear p27
                                                  try clear p278
                                                  try clear p282
                                                  try clear q2
                                                  try clear q27
                                                  try clear q278
                                                  try clear q282
                                                  obtain ⟨x82_6, rfl, HA, HK6, HO_58, HO_69, HO_80, HB⟩ := hrel
                                                  cases gk with
                                                  | zero => exact absurd HA.out (by simp [certpathlaw08_HostChains.l2])
                                                  | succ k6 =>
                                                    have H := HA.out
                                                    clear HA
                                                    simp only [certpathlaw08_HostChains.l2] at H
                                                    by_cases c59 : x82_6 < (y283.length : Int)
                                                    · rw [if_pos c59] at H
                                                      have c59b0 : decide (x82_6 < (y283.length : Int)) = true := decide_eq_true c59
                                                      clear c59
                                                      by_cases c60 : 0 ≤ x82_6
                                                      · rw [if_pos c60] at H
                                                        have c60b0 : decide (0 ≤ x82_6) = true := decide_eq_true c60
                                                        clear c60
                                                        by_cases c61 : x82_6 < (y283.length : Int)
                                                        · rw [if_pos c61] at H
                                                          have c61b0 : decide (x82_6 < (y283.length : Int)) = true := decide_eq_true c61
                                                          clear c61
                                                          replace H := Option.bind_eq_some_iff.mp H
                                                          obtain ⟨t287, A620, H⟩ := H
                                                          replace H : (if t287 = true then ((host_MailWithin.f k6 (rdOf ByteArray.empty y279 x71_5) (rdOf ByteArray.empty y283 x82_6)).bind fun t288 => (if t288 = true then ((host_MailWithin.f k6 (rdOf ByteArray.empty y274 x60_4) (rdOf ByteArray.empty y283 x82_6)).bind fun t289 => (if t289 = true then (certpathlaw08_HostChains.l2 k6 x8_11 x9_11 (rdOf ByteArray.empty y274 x60_4) (rdOf ByteArray.empty y279 x71_5) y274 (y274.length : Int) x60_4 y279 (y279.length : Int) x71_5 y283 (y283.length : Int) (wrap64 (x82_6 + 1))) else (some false))) else (certpathlaw08_HostChains.l2 k6 x8_11 x9_11 (rdOf ByteArray.empty y274 x60_4) (rdOf ByteArray.empty y279 x71_5) y274 (y274.length : Int) x60_4 y279 (y279.length : Int) x71_5 y283 (y283.length : Int) (wrap64 (x82_6 + 1))))) else (certpathlaw08_HostChains.l2 k6 x8_11 x9_11 (rdOf ByteArray.empty y274 x60_4) (rdOf ByteArray.empty y279 x71_5) y274 (y274.length : Int) x60_4 y279 (y279.length : Int) x71_5 y283 (y283.length : Int) (wrap64 (x82_6 + 1)))) = some r := H
                                                          have A62 := Aside0.mk A620
                                                          clear A620
                                                          by_cases c63 : t287 = true
                                                          · subst c63
                                                            have H1 : ((host_MailWithin.f k6 (rdOf ByteArray.empty y279 x71_5) (rdOf ByteArray.empty y283 x82_6)).bind fun t288 => (if t288 = true then ((host_MailWithin.f k6 (rdOf ByteArray.empty y274 x60_4) (rdOf ByteArray.empty y283 x82_6)).bind fun t289 => (if t289 = true then (certpathlaw08_HostChains.l2 k6 x8_11 x9_11 (rdOf ByteArray.empty y274 x60_4) (rdOf ByteArray.empty y279 x71_5) y274 (y274.length : Int) x60_4 y279 (y279.length : Int) x71_5 y283 (y283.length : Int) (wrap64 (x82_6 + 1))) else (some false))) else (certpathlaw08_HostChains.l2 k6 x8_11 x9_11 (rdOf ByteArray.empty y274 x60_4) (rdOf ByteArray.empty y279 x71_5) y274 (y274.length : Int) x60_4 y279 (y279.length : Int) x71_5 y283 (y283.length : Int) (wrap64 (x82_6 + 1))))) = some r := by rw [if_pos rfl] at H; exact H
                                                            clear H
                                                            have H := H1
                                                            clear H1
                                                            replace H := Option.bind_eq_some_iff.mp H
                                                            obtain ⟨t288, A640, H⟩ := H
                                                            replace H : (if t288 = true then ((host_MailWithin.f k6 (rdOf ByteArray.empty y274 x60_4) (rdOf ByteArray.empty y283 x82_6)).bind fun t289 => (if t289 = true then (certpathlaw08_HostChains.l2 k6 x8_11 x9_11 (rdOf ByteArray.empty y274 x60_4) (rdOf ByteArray.empty y279 x71_5) y274 (y274.length : Int) x60_4 y279 (y279.length : Int) x71_5 y283 (y283.length : Int) (wrap64 (x82_6 + 1))) else (some false))) else (certpathlaw08_HostChains.l2 k6 x8_11 x9_11 (rdOf ByteArray.empty y274 x60_4) (rdOf ByteArray.empty y279 x71_5) y274 (y274.length : Int) x60_4 y279 (y279.length : Int) x71_5 y283 (y283.length : Int) (wrap64 (x82_6 + 1)))) = some r := H
                                                            have A64 := Aside0.mk A640
                                                            clear A640
                                                            by_cases c65 : t288 = true
                                                            · subst c65
                                                              have H1 : ((host_MailWithin.f k6 (rdOf ByteArray.empty y274 x60_4) (rdOf ByteArray.empty y283 x82_6)).bind fun t289 => (if t289 = true then (certpathlaw08_HostChains.l2 k6 x8_11 x9_11 (rdOf ByteArray.empty y274 x60_4) (rdOf ByteArray.empty y279 x71_5) y274 (y274.length : Int) x60_4 y279 (y279.length : Int) x71_5 y283 (y283.length : Int) (wrap64 (x82_6 + 1))) else (some false))) = some r := by rw [if_pos rfl] at H; exact H
                                                              clear H
                                                              have H := H1
                                                              clear H1
                                                              replace H := Option.bind_eq_some_iff.mp H
                                                              obtain ⟨t289, A660, H⟩ := H
                                                              replace H : (if t289 = true then (certpathlaw08_HostChains.l2 k6 x8_11 x9_11 (rdOf ByteArray.empty y274 x60_4) (rdOf ByteArray.empty y279 x71_5) y274 (y274.length : Int) x60_4 y279 (y279.length : Int) x71_5 y283 (y283.length : Int) (wrap64 (x82_6 + 1))) else (some false)) = some r := H
                                                              have A66 := Aside0.mk A660
                                                              clear A660
                                                              by_cases c67 : t289 = true
                                                              · subst c67
                                                                have H1 : (certpathlaw08_HostChains.l2 k6 x8_11 x9_11 (rdOf ByteArray.empty y274 x60_4) (rdOf ByteArray.empty y279 x71_5) y274 (y274.length : Int) x60_4 y279 (y279.length : Int) x71_5 y283 (y283.length : Int) (wrap64 (x82_6 + 1))) = some r := by rw [if_pos rfl] at H; exact H
                                                                clear H
                                                                have H := H1
                                                                clear H1
                                                                have H' := Aside0.mk H
                                                                clear H
                                                                have p286 : 0 ≤ (x82_6 : Int) := of_decide_eq_true (by first | (with_reducible assumption) | assumption)
                                                                have q286 : x82_6 < (y283.length : Int) := of_decide_eq_true (by first | (with_reducible assumption) | assumption)
                                                                obtain ⟨ad286, e286, hx286_0⟩ := Kd.at_string (Kd.R_reads' HO_80.out).2.2 x82_6 p286 q286
                                                                cases e286
                                                                replace p286 := eq_true p286
                                                                replace q286 := eq_true q286
                                                                go_wp2_with (first | ((with_reducible refine gate_callee (f := 26) rfl ?_); refine goesL_ (some 88) rfl rfl Tryd.func26 (by kernel_rfl) rfl #[.string (rdOf ByteArray.empty y274 x60_4), .string (rdOf ByteArray.empty y279 x71_5)] rfl (by (try simp only [List.map_toArray, List.map_cons, List.map_nil]); first | done | rfl | (simp only [List.length_drop, List.length_take]; rfl)) ?_; (with_reducible refine (host_MailWithin.calls k6 (rdOf ByteArray.empty y274 x60_4) (rdOf ByteArray.empty y279 x71_5) true _ ?side1 A62.out).mono ?_); (case side1 => refine Ext.G.step ?_ hG_; repeat (first | (with_reducible first | exact HB.out | apply below_alloc | apply pw_below_drewN | apply below_drew1) | exact HB.out)); rintro e w68 ⟨rfl, hb⟩; refine ⟨_, rfl, ?_⟩; have n0_ := Aside0.mk (Kd.R_below (by (with_reducible repeat (first | apply Kd.R_alloc | apply Kd.R_drewN | apply Kd.R_drew)); exact HO_58.out) hb); have n1_ := Aside0.mk (Kd.R_below (by (with_reducible repeat (first | apply Kd.R_alloc | apply Kd.R_drewN | apply Kd.R_drew)); exact HO_69.out) hb); have n2_ := Aside0.mk (Kd.R_below (by (with_reducible repeat (first | apply Kd.R_alloc | apply Kd.R_drewN | apply Kd.R_drew)); exact HO_80.out) hb); have n3_ := Aside0.mk (below_step (by repeat (first | (with_reducible first | exact HB.out | apply below_alloc | apply pw_below_drewN | apply below_drew1) | exact HB.out)) hb); clear HO_58; clear HO_69; clear HO_80; clear HB; have HO_58 := n0_; have HO_69 := n1_; have HO_80 := n2_; have HB := n3_; clear n0_ n1_ n2_ n3_; (try clear hb); (try clear hb2); (try clear hk); (try clear hi)) | (go_at_call 26; (with_reducible refine (host_MailWithin.calls k6 (rdOf ByteArray.empty y279 x71_5) (rdOf ByteArray.empty y283 x82_6) true _ ?side1 A64.out).mono ?_); (case side1 => refine Ext.G.step ?_ hG_; repeat (first | (with_reducible first | exact HB.out | apply below_alloc | apply pw_below_drewN | apply below_drew1) | exact HB.out)); rintro e w69 ⟨rfl, hb⟩; have n0_ := Aside0.mk (Kd.R_below (by (with_reducible repeat (first | apply Kd.R_alloc | apply Kd.R_drewN | apply Kd.R_drew)); exact HO_58.out) hb); have n1_ := Aside0.mk (Kd.R_below (by (with_reducible repeat (first | apply Kd.R_alloc | apply Kd.R_drewN | apply Kd.R_drew)); exact HO_69.out) hb); have n2_ := Aside0.mk (Kd.R_below (by (with_reducible repeat (first | apply Kd.R_alloc | apply Kd.R_drewN | apply Kd.R_drew)); exact HO_80.out) hb); have n3_ := Aside0.mk (below_step (by repeat (first | (with_reducible first | exact HB.out | apply below_alloc | apply pw_below_drewN | apply below_drew1) | exact HB.out)) hb); clear HO_58; clear HO_69; clear HO_80; clear HB; have HO_58 := n0_; have HO_69 := n1_; have HO_80 := n2_; have HB := n3_; clear n0_ n1_ n2_ n3_; (try clear hb); (try clear hb2); (try clear hk); (try clear hi)) | (go_at_call 26; (with_reducible refine (host_MailWithin.calls k6 (rdOf ByteArray.empty y274 x60_4) (rdOf ByteArray.empty y283 x82_6) true _ ?side1 A66.out).mono ?_); (case side1 => refine Ext.G.step ?_ hG_; repeat (first | (with_reducible first | exact HB.out | apply below_alloc | apply pw_below_drewN | apply below_drew1) | exact HB.out)); rintro e w70 ⟨rfl, hb⟩; have n0_ := Aside0.mk (Kd.R_below (by (with_reducible repeat (first | apply Kd.R_alloc | apply Kd.R_drewN | apply Kd.R_drew)); exact HO_58.out) hb); have n1_ := Aside0.mk (Kd.R_below (by (with_reducible repeat (first | apply Kd.R_alloc | apply Kd.R_drewN | apply Kd.R_drew)); exact HO_69.out) hb); have n2_ := Aside0.mk (Kd.R_below (by (with_reducible repeat (first | apply Kd.R_alloc | apply Kd.R_drewN | apply Kd.R_drew)); exact HO_80.out) hb); have n3_ := Aside0.mk (below_step (by repeat (first | (with_reducible first | exact HB.out | apply below_alloc | apply pw_below_drewN | apply below_drew1) | exact HB.out)) hb); clear HO_58; clear HO_69; clear HO_80; clear HB; have HO_58 := n0_; have HO_69 := n1_; have HO_80 := n2_; have HB := n3_; clear n0_ n1_ n2_ n3_; (try clear hb); (try clear hb2); (try clear hk); (try clear hi)))
                                                                go_roundg k6
                                                                case measure => have := HJ6.out; have := HJ11.out; have := HJ24.out; have := HK4.out; have := HK5.out; have := HK6.out; omega
                                                                case rel => exact ⟨(wrap64 (x82_6 + 1)), (by first | rfl | (simp; done) | (simp [*]; done)), H', ⟨by have := HJ6.out; have := HJ11.out; have := HJ24.out; have := HK4.out; have := HK5.out; have := HK6.out; omega⟩, ⟨by (with_reducible repeat (first | apply Kd.R_alloc | apply Kd.R_drewN | apply Kd.R_drew)); exact HO_58.out⟩, ⟨by (with_reducible repeat (first | apply Kd.R_alloc | apply Kd.R_drewN | apply Kd.R_drew)); exact HO_69.out⟩, ⟨by (with_reducible repeat (first | apply Kd.R_alloc | apply Kd.R_drewN | apply Kd.R_drew)); exact HO_80.out⟩, ⟨by repeat (first | (with_reducible first | exact HB.out | apply below_alloc | apply pw_below_drewN | apply below_drew1) | exact HB.out)⟩⟩
                                                              · replace c67 := Bool.eq_false_iff.mpr c67
                                                                subst c67
                                                                have H1 : (some false) = some r := by rw [if_neg (show ¬ (false = true) by decide)] at H; exact H
                                                                clear H
                                                                have H := H1
                                                                clear H1
                                                                obtain rfl := Option.some.inj H
                                                                have p286 : 0 ≤ (x82_6 : Int) := of_decide_eq_true (by first | (with_reducible assumption) | assumption)
                                                                have q286 : x82_6 < (y283.length : Int) := of_decide_eq_true (by first | (with_reducible assumption) | assumption)
                                                                obtain ⟨ad286, e286, hx286_0⟩ := Kd.at_string (Kd.R_reads' HO_80.out).2.2 x82_6 p286 q286
                                                                cases e286
                                                                replace p286 := eq_true p286
                                                                replace q286 := eq_true q286
                                                                go_wp2_with (first | ((with_reducible refine gate_callee (f := 26) rfl ?_); refine goesL_ (some 88) rfl rfl Tryd.func26 (by kernel_rfl) rfl #[.string (rdOf ByteArray.empty y274 x60_4), .string (rdOf ByteArray.empty y279 x71_5)] rfl (by (try simp only [List.map_toArray, List.map_cons, List.map_nil]); first | done | rfl | (simp only [List.length_drop, List.length_take]; rfl)) ?_; (with_reducible refine (host_MailWithin.calls k6 (rdOf ByteArray.empty y274 x60_4) (rdOf ByteArray.empty y279 x71_5) true _ ?side1 A62.out).mono ?_); (case side1 => refine Ext.G.step ?_ hG_; repeat (first | (with_reducible first | exact HB.out | apply below_alloc | apply pw_below_drewN | apply below_drew1) | exact HB.out)); rintro e w71 ⟨rfl, hb⟩; refine ⟨_, rfl, ?_⟩; have n0_ := Aside0.mk (Kd.R_below (by (with_reducible repeat (first | apply Kd.R_alloc | apply Kd.R_drewN | apply Kd.R_drew)); exact HO_58.out) hb); have n1_ := Aside0.mk (Kd.R_below (by (with_reducible repeat (first | apply Kd.R_alloc | apply Kd.R_drewN | apply Kd.R_drew)); exact HO_69.out) hb); have n2_ := Aside0.mk (Kd.R_below (by (with_reducible repeat (first | apply Kd.R_alloc | apply Kd.R_drewN | apply Kd.R_drew)); exact HO_80.out) hb); have n3_ := Aside0.mk (below_step (by repeat (first | (with_reducible first | exact HB.out | apply below_alloc | apply pw_below_drewN | apply below_drew1) | exact HB.out)) hb); clear HO_58; clear HO_69; clear HO_80; clear HB; have HO_58 := n0_; have HO_69 := n1_; have HO_80 := n2_; have HB := n3_; clear n0_ n1_ n2_ n3_; (try clear hb); (try clear hb2); (try clear hk); (try clear hi)) | (go_at_call 26; (with_reducible refine (host_MailWithin.calls k6 (rdOf ByteArray.empty y279 x71_5) (rdOf ByteArray.empty y283 x82_6) true _ ?side1 A64.out).mono ?_); (case side1 => refine Ext.G.step ?_ hG_; repeat (first | (with_reducible first | exact HB.out | apply below_alloc | apply pw_below_drewN | apply below_drew1) | exact HB.out)); rintro e w72 ⟨rfl, hb⟩; have n0_ := Aside0.mk (Kd.R_below (by (with_reducible repeat (first | apply Kd.R_alloc | apply Kd.R_drewN | apply Kd.R_drew)); exact HO_58.out) hb); have n1_ := Aside0.mk (Kd.R_below (by (with_reducible repeat (first | apply Kd.R_alloc | apply Kd.R_drewN | apply Kd.R_drew)); exact HO_69.out) hb); have n2_ := Aside0.mk (Kd.R_below (by (with_reducible repeat (first | apply Kd.R_alloc | apply Kd.R_drewN | apply Kd.R_drew)); exact HO_80.out) hb); have n3_ := Aside0.mk (below_step (by repeat (first | (with_reducible first | exact HB.out | apply below_alloc | apply pw_below_drewN | apply below_drew1) | exact HB.out)) hb); clear HO_58; clear HO_69; clear HO_80; clear HB; have HO_58 := n0_; have HO_69 := n1_; have HO_80 := n2_; have HB := n3_; clear n0_ n1_ n2_ n3_; (try clear hb); (try clear hb2); (try clear hk); (try clear hi)) | (go_at_call 26; (with_reducible refine (host_MailWithin.calls k6 (rdOf ByteArray.empty y274 x60_4) (rdOf ByteArray.empty y283 x82_6) false _ ?side1 A66.out).mono ?_); (case side1 => refine Ext.G.step ?_ hG_; repeat (first | (with_reducible first | exact HB.out | apply below_alloc | apply pw_below_drewN | apply below_drew1) | exact HB.out)); rintro e w73 ⟨rfl, hb⟩; have n0_ := Aside0.mk (Kd.R_below (by (with_reducible repeat (first | apply Kd.R_alloc | apply Kd.R_drewN | apply Kd.R_drew)); exact HO_58.out) hb); have n1_ := Aside0.mk (Kd.R_below (by (with_reducible repeat (first | apply Kd.R_alloc | apply Kd.R_drewN | apply Kd.R_drew)); exact HO_69.out) hb); have n2_ := Aside0.mk (Kd.R_below (by (with_reducible repeat (first | apply Kd.R_alloc | apply Kd.R_drewN | apply Kd.R_drew)); exact HO_80.out) hb); have n3_ := Aside0.mk (below_step (by repeat (first | (with_reducible first | exact HB.out | apply below_alloc | apply pw_below_drewN | apply below_drew1) | exact HB.out)) hb); clear HO_58; clear HO_69; clear HO_80; clear HB; have HO_58 := n0_; have HO_69 := n1_; have HO_80 := n2_; have HB := n3_; clear n0_ n1_ n2_ n3_; (try clear hb); (try clear hb2); (try clear hk); (try clear hi)))
                                                                go_ret
                                                                exact ⟨by first | rfl | (simp [errW_none, errW_some] <;> rfl) | (simp [*, errW_none, errW_some] <;> rfl), by repeat (first | (with_reducible first | exact HB.out | apply below_alloc | apply pw_below_drewN | apply below_drew1) | exact HB.out)⟩
                                                            · replace c65 := Bool.eq_false_iff.mpr c65
                                                              subst c65
                                                              have H1 : (certpathlaw08_HostChains.l2 k6 x8_11 x9_11 (rdOf ByteArray.empty y274 x60_4) (rdOf ByteArray.empty y279 x71_5) y274 (y274.length : Int) x60_4 y279 (y279.length : Int) x71_5 y283 (y283.length : Int) (wrap64 (x82_6 + 1))) = some r := by rw [if_neg (show ¬ (false = true) by decide)] at H; exact H
                                                              clear H
                                                              have H := H1
                                                              clear H1
                                                              have H' := Aside0.mk H
                                                              clear H
                                                              have p286 : 0 ≤ (x82_6 : Int) := of_decide_eq_true (by first | (with_reducible assumption) | assumption)
                                                              have q286 : x82_6 < (y283.length : Int) := of_decide_eq_true (by first | (with_reducible assumption) | assumption)
                                                              obtain ⟨ad286, e286, hx286_0⟩ := Kd.at_string (Kd.R_reads' HO_80.out).2.2 x82_6 p286 q286
                                                              cases e286
                                                              replace p286 := eq_true p286
                                                              replace q286 := eq_true q286
                                                              go_wp2_with (first | ((with_reducible refine gate_callee (f := 26) rfl ?_); refine goesL_ (some 88) rfl rfl Tryd.func26 (by kernel_rfl) rfl #[.string (rdOf ByteArray.empty y274 x60_4), .string (rdOf ByteArray.empty y279 x71_5)] rfl (by (try simp only [List.map_toArray, List.map_cons, List.map_nil]); first | done | rfl | (simp only [List.length_drop, List.length_take]; rfl)) ?_; (with_reducible refine (host_MailWithin.calls k6 (rdOf ByteArray.empty y274 x60_4) (rdOf ByteArray.empty y279 x71_5) true _ ?side1 A62.out).mono ?_); (case side1 => refine Ext.G.step ?_ hG_; repeat (first | (with_reducible first | exact HB.out | apply below_alloc | apply pw_below_drewN | apply below_drew1) | exact HB.out)); rintro e w74 ⟨rfl, hb⟩; refine ⟨_, rfl, ?_⟩; have n0_ := Aside0.mk (Kd.R_below (by (with_reducible repeat (first | apply Kd.R_alloc | apply Kd.R_drewN | apply Kd.R_drew)); exact HO_58.out) hb); have n1_ := Aside0.mk (Kd.R_below (by (with_reducible repeat (first | apply Kd.R_alloc | apply Kd.R_drewN | apply Kd.R_drew)); exact HO_69.out) hb); have n2_ := Aside0.mk (Kd.R_below (by (with_reducible repeat (first | apply Kd.R_alloc | apply Kd.R_drewN | apply Kd.R_drew)); exact HO_80.out) hb); have n3_ := Aside0.mk (below_step (by repeat (first | (with_reducible first | exact HB.out | apply below_alloc | apply pw_below_drewN | apply below_drew1) | exact HB.out)) hb); clear HO_58; clear HO_69; clear HO_80; clear HB; have HO_58 := n0_; have HO_69 := n1_; have HO_80 := n2_; have HB := n3_; clear n0_ n1_ n2_ n3_; (try clear hb); (try clear hb2); (try clear hk); (try clear hi)) | (go_at_call 26; (with_reducible refine (host_MailWithin.calls k6 (rdOf ByteArray.empty y279 x71_5) (rdOf ByteArray.empty y283 x82_6) false _ ?side1 A64.out).mono ?_); (case side1 => refine Ext.G.step ?_ hG_; repeat (first | (with_reducible first | exact HB.out | apply below_alloc | apply pw_below_drewN | apply below_drew1) | exact HB.out)); rintro e w75 ⟨rfl, hb⟩; have n0_ := Aside0.mk (Kd.R_below (by (with_reducible repeat (first | apply Kd.R_alloc | apply Kd.R_drewN | apply Kd.R_drew)); exact HO_58.out) hb); have n1_ := Aside0.mk (Kd.R_below (by (with_reducible repeat (first | apply Kd.R_alloc | apply Kd.R_drewN | apply Kd.R_drew)); exact HO_69.out) hb); have n2_ := Aside0.mk (Kd.R_below (by (with_reducible repeat (first | apply Kd.R_alloc | apply Kd.R_drewN | apply Kd.R_drew)); exact HO_80.out) hb); have n3_ := Aside0.mk (below_step (by repeat (first | (with_reducible first | exact HB.out | apply below_alloc | apply pw_below_drewN | apply below_drew1) | exact HB.out)) hb); clear HO_58; clear HO_69; clear HO_80; clear HB; have HO_58 := n0_; have HO_69 := n1_; have HO_80 := n2_; have HB := n3_; clear n0_ n1_ n2_ n3_; (try clear hb); (try clear hb2); (try clear hk); (try clear hi)))
                                                              go_roundg k6
                                                              case measure => have := HJ6.out; have := HJ11.out; have := HJ24.out; have := HK4.out; have := HK5.out; have := HK6.out; omega
                                                              case rel => exact ⟨(wrap64 (x82_6 + 1)), (by first | rfl | (simp; done) | (simp [*]; done)), H', ⟨by have := HJ6.out; have := HJ11.out; have := HJ24.out; have := HK4.out; have := HK5.out; have := HK6.out; omega⟩, ⟨by (with_reducible repeat (first | apply Kd.R_alloc | apply Kd.R_drewN | apply Kd.R_drew)); exact HO_58.out⟩, ⟨by (with_reducible repeat (first | apply Kd.R_alloc | apply Kd.R_drewN | apply Kd.R_drew)); exact HO_69.out⟩, ⟨by (with_reducible repeat (first | apply Kd.R_alloc | apply Kd.R_drewN | apply Kd.R_drew)); exact HO_80.out⟩, ⟨by repeat (first | (with_reducible first | exact HB.out | apply below_alloc | apply pw_below_drewN | apply below_drew1) | exact HB.out)⟩⟩
                                                          · replace c63 := Bool.eq_false_iff.mpr c63
                                                            subst c63
                                                            have H1 : (certpathlaw08_HostChains.l2 k6 x8_11 x9_11 (rdOf ByteArray.empty y274 x60_4) (rdOf ByteArray.empty y279 x71_5) y274 (y274.length : Int) x60_4 y279 (y279.length : Int) x71_5 y283 (y283.length : Int) (wrap64 (x82_6 + 1))) = some r := by rw [if_neg (show ¬ (false = true) by decide)] at H; exact H
                                                            clear H
                                                            have H := H1
                                                            clear H1
                                                            have H' := Aside0.mk H
                                                            clear H
                                                            have p286 : 0 ≤ (x82_6 : Int) := of_decide_eq_true (by first | (with_reducible assumption) | assumption)
                                                            have q286 : x82_6 < (y283.length : Int) := of_decide_eq_true (by first | (with_reducible assumption) | assumption)
                                                            obtain ⟨ad286, e286, hx286_0⟩ := Kd.at_string (Kd.R_reads' HO_80.out).2.2 x82_6 p286 q286
                                                            cases e286
                                                            replace p286 := eq_true p286
                                                            replace q286 := eq_true q286
                                                            go_wp2_with (first | ((with_reducible refine gate_callee (f := 26) rfl ?_); refine goesL_ (some 88) rfl rfl Tryd.func26 (by kernel_rfl) rfl #[.string (rdOf ByteArray.empty y274 x60_4), .string (rdOf ByteArray.empty y279 x71_5)] rfl (by (try simp only [List.map_toArray, List.map_cons, List.map_nil]); first | done | rfl | (simp only [List.length_drop, List.length_take]; rfl)) ?_; (with_reducible refine (host_MailWithin.calls k6 (rdOf ByteArray.empty y274 x60_4) (rdOf ByteArray.empty y279 x71_5) false _ ?side1 A62.out).mono ?_); (case side1 => refine Ext.G.step ?_ hG_; repeat (first | (with_reducible first | exact HB.out | apply below_alloc | apply pw_below_drewN | apply below_drew1) | exact HB.out)); rintro e w76 ⟨rfl, hb⟩; refine ⟨_, rfl, ?_⟩; have n0_ := Aside0.mk (Kd.R_below (by (with_reducible repeat (first | apply Kd.R_alloc | apply Kd.R_drewN | apply Kd.R_drew)); exact HO_58.out) hb); have n1_ := Aside0.mk (Kd.R_below (by (with_reducible repeat (first | apply Kd.R_alloc | apply Kd.R_drewN | apply Kd.R_drew)); exact HO_69.out) hb); have n2_ := Aside0.mk (Kd.R_below (by (with_reducible repeat (first | apply Kd.R_alloc | apply Kd.R_drewN | apply Kd.R_drew)); exact HO_80.out) hb); have n3_ := Aside0.mk (below_step (by repeat (first | (with_reducible first | exact HB.out | apply below_alloc | apply pw_below_drewN | apply below_drew1) | exact HB.out)) hb); clear HO_58; clear HO_69; clear HO_80; clear HB; have HO_58 := n0_; have HO_69 := n1_; have HO_80 := n2_; have HB := n3_; clear n0_ n1_ n2_ n3_; (try clear hb); (try clear hb2); (try clear hk); (try clear hi)))
                                                            go_roundg k6
                                                            case measure => have := HJ6.out; have := HJ11.out; have := HJ24.out; have := HK4.out; have := HK5.out; have := HK6.out; omega
                                                            case rel => exact ⟨(wrap64 (x82_6 + 1)), (by first | rfl | (simp; done) | (simp [*]; done)), H', ⟨by have := HJ6.out; have := HJ11.out; have := HJ24.out; have := HK4.out; have := HK5.out; have := HK6.out; omega⟩, ⟨by (with_reducible repeat (first | apply Kd.R_alloc | apply Kd.R_drewN | apply Kd.R_drew)); exact HO_58.out⟩, ⟨by (with_reducible repeat (first | apply Kd.R_alloc | apply Kd.R_drewN | apply Kd.R_drew)); exact HO_69.out⟩, ⟨by (with_reducible repeat (first | apply Kd.R_alloc | apply Kd.R_drewN | apply Kd.R_drew)); exact HO_80.out⟩, ⟨by repeat (first | (with_reducible first | exact HB.out | apply below_alloc | apply pw_below_drewN | apply below_drew1) | exact HB.out)⟩⟩
                                                        · rw [if_neg c61] at H
                                                          exact absurd H (by simp)
                                                      · rw [if_neg c60] at H
                                                        exact absurd H (by simp)
                                                    · rw [if_neg c59] at H
                                                      have c59b0 : decide (x82_6 < (y283.length : Int)) = false := decide_eq_false c59
                                                      clear c59
                                                      have H' := Aside0.mk H
                                                      clear H
                                                      go_wp2
                                                      go_roundg k6
                                                      case measure => have := HJ6.out; have := HJ11.out; have := HJ24.out; have := HK4.out; have := HK5.out; have := HK6.out; omega
                                                      case rel => exact ⟨(wrap64 (x71_5 + 1)), (by first | rfl | (simp; done) | (simp [*]; done)), H', ⟨by have := HJ6.out; have := HJ11.out; have := HJ24.out; have := HK4.out; have := HK5.out; have := HK6.out; omega⟩, ⟨by (with_reducible repeat (first | apply Kd.R_alloc | apply Kd.R_drewN | apply Kd.R_drew)); exact Kd.R_mono HO_58.out (fun _ hk => hk.1)⟩, ⟨by (with_reducible repeat (first | apply Kd.R_alloc | apply Kd.R_drewN | apply Kd.R_drew)); exact Kd.R_mono HO_69.out (fun _ hk => hk.1)⟩, ⟨by repeat (first | (with_reducible first | exact HB.out | apply below_alloc | apply pw_below_drewN | apply below_drew1) | exact HB.out)⟩⟩
                                              · rw [if_neg c55] at H
                                                exact absurd H (by simp)
                                            · rw [if_neg c54] at H
                                              exact absurd H (by simp)
                                          · rw [if_neg c53] at H
                                            exact absurd H (by simp)
                                        · rw [if_neg c52] at H
                                          exact absurd H (by simp)
                                      · rw [if_neg c51] at H
                                        have c51b0 : decide (x71_5 < (y279.length : Int)) = false := decide_eq_false c51
                                        clear c51
                                        have H' := Aside0.mk H
                                        clear H
                                        go_wp2
                                        go_roundg k5
                                        case measure => have := HJ6.out; have := HJ11.out; have := HJ24.out; have := HK4.out; have := HK5.out; omega
                                        case rel => exact ⟨(wrap64 (x60_4 + 1)), (by first | rfl | (simp; done) | (simp [*]; done)), H', ⟨by have := HJ6.out; have := HJ11.out; have := HJ24.out; have := HK4.out; have := HK5.out; omega⟩, ⟨by (with_reducible repeat (first | apply Kd.R_alloc | apply Kd.R_drewN | apply Kd.R_drew)); exact Kd.R_mono HO_58.out (fun _ hk => trivial)⟩, ⟨by repeat (first | (with_reducible first | exact HB.out | apply below_alloc | apply pw_below_drewN | apply below_drew1) | exact HB.out)⟩⟩
                                · rw [if_neg c47] at H
                                  exact absurd H (by simp)
                              · rw [if_neg c46] at H
                                exact absurd H (by simp)
                            · rw [if_neg c45] at H
                              exact absurd H (by simp)
                          · rw [if_neg c44] at H
                            exact absurd H (by simp)
                        · rw [if_neg c43] at H
                          have c43b0 : decide (x60_4 < (y274.length : Int)) = false := decide_eq_false c43
                          clear c43
                          replace H := Option.bind_eq_some_iff.mp H
                          obtain ⟨t277, A770, H⟩ := H
                          replace H : (some t277) = some r := H
                          have A77 := Aside0.mk A770
                          clear A770
                          obtain rfl := Option.some.inj H
                          go_wp2_with (first | ((with_reducible refine gate_callee (f := 10) rfl ?_); refine goesL_ (some 103) rfl rfl Tryd.func10 (by kernel_rfl) rfl #[] rfl (by (try simp only [List.map_toArray, List.map_cons, List.map_nil]); first | done | rfl | (simp only [List.length_drop, List.length_take]; rfl)) ?_; (with_reducible refine (certpathlaw08_awake.calls k4  t277 _ ?side1 A77.out).mono ?_); (case side1 => refine Ext.G.step ?_ hG_; repeat (first | (with_reducible first | exact HB.out | apply below_alloc | apply pw_below_drewN | apply below_drew1) | exact HB.out)); rintro e w78 ⟨rfl, hb⟩; refine ⟨_, rfl, ?_⟩; have n0_ := Aside0.mk (Kd.R_below (by (with_reducible repeat (first | apply Kd.R_alloc | apply Kd.R_drewN | apply Kd.R_drew)); exact HO_58.out) hb); have n1_ := Aside0.mk (below_step (by repeat (first | (with_reducible first | exact HB.out | apply below_alloc | apply pw_below_drewN | apply below_drew1) | exact HB.out)) hb); clear HO_58; clear HB; have HO_58 := n0_; have HB := n1_; clear n0_ n1_; (try clear hb); (try clear hb2); (try clear hk); (try clear hi)))
                          go_ret
                          exact ⟨by first | rfl | (simp [errW_none, errW_some] <;> rfl) | (simp [*, errW_none, errW_some] <;> rfl), by repeat (first | (with_reducible first | exact HB.out | apply below_alloc | apply pw_below_drewN | apply below_drew1) | exact HB.out)⟩
                  · rw [if_neg c39] at H
                    exact absurd H (by simp)
                · rw [if_neg c38] at H
                  exact absurd H (by simp)

/-- THE ONE PURE STATEMENT of certpathlaw08_HostChains: yours. -/
def certpathlaw08_HostChains.Pure : Prop := ∀ (l0 : List Int) (l1 : List Int) (l2 : List Int), l0.length ≤ maxLen → l0.length * 1 ≤ 140737488351232 → (∀ x ∈ l0, (Lit.int .u8 x).wf = true) → l1.length ≤ maxLen → l1.length * 1 ≤ 140737488351232 → (∀ x ∈ l1, (Lit.int .u8 x).wf = true) → l2.length ≤ maxLen → l2.length * 1 ≤ 140737488351232 → (∀ x ∈ l2, (Lit.int .u8 x).wf = true) → ∃ k, certpathlaw08_HostChains.f k l0 l1 l2 = some true
theorem certpathlaw08_HostChains.walk (P : certpathlaw08_HostChains.Pure) (a0 : Option Addr) (len0 cap0 : Nat) (z0 : List Int) (a1 : Option Addr) (len1 cap1 : Nat) (z1 : List Int) (a2 : Option Addr) (len2 cap2 : Nat) (z2 : List Int) (w : World) (hG_ : Ext.G w) (w0 : (a0 = none ∧ len0 = 0 ∧ cap0 = 0 ∧ z0 = []) ∨ ∃ x, a0 = some x ∧ len0 ≤ cap0 ∧ cap0 ≤ maxLen ∧ z0.length = cap0 ∧ (∀ i, i < z0.length → w.cell? (x.add i) = some (.int .u8 (z0.getD i 0))) ∧ ∀ n ∈ z0, (Lit.int .u8 n).wf = true) (y0 : len0 * 1 ≤ 140737488351232) (w1 : (a1 = none ∧ len1 = 0 ∧ cap1 = 0 ∧ z1 = []) ∨ ∃ x, a1 = some x ∧ len1 ≤ cap1 ∧ cap1 ≤ maxLen ∧ z1.length = cap1 ∧ (∀ i, i < z1.length → w.cell? (x.add i) = some (.int .u8 (z1.getD i 0))) ∧ ∀ n ∈ z1, (Lit.int .u8 n).wf = true) (y1 : len1 * 1 ≤ 140737488351232) (w2 : (a2 = none ∧ len2 = 0 ∧ cap2 = 0 ∧ z2 = []) ∨ ∃ x, a2 = some x ∧ len2 ≤ cap2 ∧ cap2 ≤ maxLen ∧ z2.length = cap2 ∧ (∀ i, i < z2.length → w.cell? (x.add i) = some (.int .u8 (z2.getD i 0))) ∧ ∀ n ∈ z2, (Lit.int .u8 n).wf = true) (y2 : len2 * 1 ≤ 140737488351232) :
    Calls Tryd.prog 6 #[.slice a0 len0 cap0, .slice a1 len1 cap1, .slice a2 len2 cap2] w fun e w' => e = .returned (.bool true) ∧ Below w.heap.size w w' := by
  obtain ⟨l0, rfl, hr0, hm0, hw0, hc0⟩ := ReadsInt.ofRowC w0
  obtain ⟨l1, rfl, hr1, hm1, hw1, hc1⟩ := ReadsInt.ofRowC w1
  obtain ⟨l2, rfl, hr2, hm2, hw2, hc2⟩ := ReadsInt.ofRowC w2
  obtain ⟨k, h⟩ := P l0 l1 l2 hm0 y0 hw0 hm1 y1 hw1 hm2 y2 hw2
  refine (certpathlaw08_HostChains.calls k _ _ l0 _ _ l1 _ _ l2 true w hG_ (Kd.C_of_reads (d := (0 : Int)) (h1 := fun _ => rfl) hr0) hc0 (Kd.C_of_reads (d := (0 : Int)) (h1 := fun _ => rfl) hr1) hc1 (Kd.C_of_reads (d := (0 : Int)) (h1 := fun _ => rfl) hr2) hc2 h).mono ?_
  rintro e w' ⟨rfl, hd⟩
  exact ⟨rfl, hd⟩

end Go.Proofs.YtegmenlonpgnpaaDoor.Q
