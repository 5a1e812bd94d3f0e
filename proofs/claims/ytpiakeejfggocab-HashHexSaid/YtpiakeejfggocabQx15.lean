-- Written by a program of this session (wip/prn.py) out of the translation, for the seat Ytpiakeejfggocab. Not trusted: Lean checks it.
import Derived.Test.YtpiakeejfggocabQx0
import Derived.Test.YtpiakeejfggocabQx5
import Derived.Test.YtpiakeejfggocabQx6
import Derived.Test.YtpiakeejfggocabQx11
import Derived.Test.YtpiakeejfggocabQx13
import Derived.Test.YtpiakeejfggocabQx14
namespace Go.Proofs.Ytpiakeejfggocab.Q
open Go.RowKit Go.Proofs.YtpiakeejfggocabW.PrintWords Go.Proofs.YtpiakeejfggocabW.PrintLast Go.Proofs.YtpiakeejfggocabW.PrintMore
attribute [local go_sem] max2_int min2_int max_two min_two max_three min_three max_four min_four   -- for this text's walks alone
set_option linter.unusedVariables false
set_option linter.unusedSimpArgs false

/-! ### certpathlaw01_HashHex: function 7 -/
mutual
def certpathlaw01_HashHex.j0 : Nat → ByteArray → ByteArray → Bool → Option (Bool)
  | 0, _, _, _ => none
  | k + 1, x0, x1, x18 => if x18 = true then ((certpathlaw01_awake.f k).bind fun t304 => (some t304)) else ((hash_Hex.f k x0).bind fun t305 => ((some (([x1, x0, t305] : List ByteArray) : List ByteArray)).bind fun y306 => (certpathlaw01_HashHex.l0 k y306 (y306.length : Int) 0)))
def certpathlaw01_HashHex.l0 : Nat → List ByteArray → Int → Int → Option (Bool)
  | 0, _, _, _ => none
  | k + 1, x24, x25, x26 => if x26 < x25 then (if 0 ≤ x26 then (if x26 < (x24.length : Int) then ((hash_Unhex.f k (rdOf ByteArray.empty x24 x26)).bind fun bt311 => ((certpathref01_Unhex.f k (rdOf ByteArray.empty x24 x26)).bind fun bt313 => (if bt311.1.toList = bt313.1.toList then (if (bt311.2 != bt313.2) = true then (some false) else (if bt311.2 = true then ((hash_Hex.f k bt311.1).bind fun t315 => (if t315.toList = (rdOf ByteArray.empty x24 x26).toList then ((hash_Hex.f k (rdOf ByteArray.empty x24 x26)).bind fun t316 => ((certpathref01_Hex.f k (rdOf ByteArray.empty x24 x26)).bind fun t317 => (if t316.toList = t317.toList then (certpathlaw01_HashHex.l0 k x24 x25 (wrap64 (x26 + 1))) else (some false)))) else (some false))) else ((hash_Hex.f k (rdOf ByteArray.empty x24 x26)).bind fun t318 => ((certpathref01_Hex.f k (rdOf ByteArray.empty x24 x26)).bind fun t319 => (if t318.toList = t319.toList then (certpathlaw01_HashHex.l0 k x24 x25 (wrap64 (x26 + 1))) else (some false)))))) else (some false)))) else (none)) else (none)) else ((certpathlaw01_awake.f k).bind fun t309 => (some t309))
end
def certpathlaw01_HashHex.f (k : Nat) (a0 : ByteArray) (a1 : ByteArray) : Option (Bool) := if (a0.size : Int) > 400 then (certpathlaw01_HashHex.j0 k a0 a1 true) else (certpathlaw01_HashHex.j0 k a0 a1 (decide ((a1.size : Int) > 400)))
theorem certpathlaw01_HashHex.mono_l : ∀ k, (∀ y0 y1 y2, LeO (certpathlaw01_HashHex.j0 k y0 y1 y2) (certpathlaw01_HashHex.j0 (k + 1) y0 y1 y2)) ∧ (∀ y0 y1 y2, LeO (certpathlaw01_HashHex.l0 k y0 y1 y2) (certpathlaw01_HashHex.l0 (k + 1) y0 y1 y2))
  | 0 => ⟨fun _ _ _ r h => by simp [certpathlaw01_HashHex.j0] at h, fun _ _ _ r h => by simp [certpathlaw01_HashHex.l0] at h⟩
  | k + 1 => by
    obtain ⟨ih0, ih1⟩ := certpathlaw01_HashHex.mono_l k
    refine ⟨?_, ?_⟩
    · intro y0 y1 y2
      unfold certpathlaw01_HashHex.j0
      repeat' first
      | (with_reducible exact ih0 _ _ _)
      | (with_reducible exact ih1 _ _ _)
      | (with_reducible exact certpathlaw01_awake.mono _)
      | (with_reducible exact certpathref01_Hex.mono _ _)
      | (with_reducible exact certpathref01_Unhex.mono _ _)
      | (with_reducible exact hash_Hex.mono _ _)
      | (with_reducible exact hash_Unhex.mono _ _)
      | (with_reducible exact LeO.refl _)
      | (with_reducible exact LeO.none _)
      | (with_reducible refine LeO.ite ?_ ?_)
      | (with_reducible refine LeO.bind ?_ (fun _ => ?_))
      | exact ih0 _ _ _
      | exact ih1 _ _ _
      | exact certpathlaw01_awake.mono _
      | exact certpathref01_Hex.mono _ _
      | exact certpathref01_Unhex.mono _ _
      | exact hash_Hex.mono _ _
      | exact hash_Unhex.mono _ _
      | exact LeO.none _
      | refine LeO.ite ?_ ?_
      | refine LeO.bind ?_ (fun _ => ?_)
    · intro y0 y1 y2
      unfold certpathlaw01_HashHex.l0
      repeat' first
      | (with_reducible exact ih0 _ _ _)
      | (with_reducible exact ih1 _ _ _)
      | (with_reducible exact certpathlaw01_awake.mono _)
      | (with_reducible exact certpathref01_Hex.mono _ _)
      | (with_reducible exact certpathref01_Unhex.mono _ _)
      | (with_reducible exact hash_Hex.mono _ _)
      | (with_reducible exact hash_Unhex.mono _ _)
      | (with_reducible exact LeO.refl _)
      | (with_reducible exact LeO.none _)
      | (with_reducible refine LeO.ite ?_ ?_)
      | (with_reducible refine LeO.bind ?_ (fun _ => ?_))
      | exact ih0 _ _ _
      | exact ih1 _ _ _
      | exact certpathlaw01_awake.mono _
      | exact certpathref01_Hex.mono _ _
      | exact certpathref01_Unhex.mono _ _
      | exact hash_Hex.mono _ _
      | exact hash_Unhex.mono _ _
      | exact LeO.none _
      | refine LeO.ite ?_ ?_
      | refine LeO.bind ?_ (fun _ => ?_)
theorem certpathlaw01_HashHex.mono : ∀ a0 a1 k, LeO (certpathlaw01_HashHex.f k a0 a1) (certpathlaw01_HashHex.f (k + 1) a0 a1) := by
  intro a0 a1 k
  obtain ⟨ih0, ih1⟩ := certpathlaw01_HashHex.mono_l k
  unfold certpathlaw01_HashHex.f
  repeat' first
      | (with_reducible exact ih0 _ _ _)
      | (with_reducible exact ih1 _ _ _)
      | (with_reducible exact certpathlaw01_awake.mono _)
      | (with_reducible exact certpathref01_Hex.mono _ _)
      | (with_reducible exact certpathref01_Unhex.mono _ _)
      | (with_reducible exact hash_Hex.mono _ _)
      | (with_reducible exact hash_Unhex.mono _ _)
      | (with_reducible exact LeO.refl _)
      | (with_reducible exact LeO.none _)
      | (with_reducible refine LeO.ite ?_ ?_)
      | (with_reducible refine LeO.bind ?_ (fun _ => ?_))
      | exact ih0 _ _ _
      | exact ih1 _ _ _
      | exact certpathlaw01_awake.mono _
      | exact certpathref01_Hex.mono _ _
      | exact certpathref01_Unhex.mono _ _
      | exact hash_Hex.mono _ _
      | exact hash_Unhex.mono _ _
      | exact LeO.none _
      | refine LeO.ite ?_ ?_
      | refine LeO.bind ?_ (fun _ => ?_)
set_option maxHeartbeats 8000000 in
set_option maxRecDepth 100000 in
theorem certpathlaw01_HashHex.calls (k : Nat) (a0 : ByteArray) (a1 : ByteArray) (r : Bool) (w : World) (h : certpathlaw01_HashHex.f k a0 a1 = some r) :
    Calls Try.prog 7 #[.string a0, .string a1] w fun e w' => e = .returned (.bool r) ∧ Below w.heap.size w w' := by
  have HB := Aside0.mk (Below.refl w.heap.size w)
  have H : (if (a0.size : Int) > 400 then (certpathlaw01_HashHex.j0 k a0 a1 true) else (certpathlaw01_HashHex.j0 k a0 a1 (decide ((a1.size : Int) > 400)))) = some r := h
  clear h
  have HC3 := Aside0.mk H
  clear H
  go_enter Try.func7, Try.ntmps7
  go_upto_region 1 with (fail)
  go_cut [18] (fun v18 wc => ∃ (kq : Nat) (x18_2 : Bool), v18 = .bool x18_2 ∧ Aside0 (certpathlaw01_HashHex.j0 kq a0 a1 x18_2 = some r) ∧ Aside0 (kq ≤ k) ∧ Aside0 (Below w.heap.size w wc))
  case first =>
    have H := HC3.out
    clear HC3
    by_cases c4 : (a0.size : Int) > 400
    · rw [if_pos c4] at H
      have c4b0 : decide (400 < (a0.size : Int)) = true := decide_eq_true c4
      have c4b1 : decide (400 < a0.size) = true := decide_eq_true (by omega)
      clear c4
      (first | rw [c4b0] | (simp only [i64_w, i32_w]; rw [c4b0]) | skip)
      have H' := Aside0.mk H
      clear H
      go_wp2
      go_meet
      case rel => exact ⟨_, (true), (by first | rfl | (simp; done) | (simp [*]; done)), H', ⟨by first | omega | exact Nat.le_refl _⟩, ⟨by repeat (first | (with_reducible first | exact HB.out | apply below_alloc | apply pw_below_drewN | apply below_drew1) | exact HB.out)⟩⟩
    · rw [if_neg c4] at H
      have c4b0 : decide (400 < (a0.size : Int)) = false := decide_eq_false c4
      have c4b1 : decide (400 < a0.size) = false := decide_eq_false (by omega)
      clear c4
      (first | rw [c4b0] | (simp only [i64_w, i32_w]; rw [c4b0]) | skip)
      have H' := Aside0.mk H
      clear H
      go_wp2
      go_meet
      case rel => exact ⟨_, (decide ((a1.size : Int) > 400)), (by first | rfl | (simp; done) | (simp [*]; done)), H', ⟨by first | omega | exact Nat.le_refl _⟩, ⟨by repeat (first | (with_reducible first | exact HB.out | apply below_alloc | apply pw_below_drewN | apply below_drew1) | exact HB.out)⟩⟩
  case rest =>
    clear HC3
    try clear p2
    try clear c4
    try clear c4b0
    try clear c4b1
    obtain ⟨kq, x18_2, rfl, HA, HJ2, HB⟩ := hcut
    cases kq with
    | zero => exact absurd HA.out (by simp [certpathlaw01_HashHex.j0])
    | succ kj2 =>
      have H := HA.out
      clear HA
      simp only [certpathlaw01_HashHex.j0] at H
      by_cases c5 : x18_2 = true
      · subst c5
        have H1 : ((certpathlaw01_awake.f kj2).bind fun t304 => (some t304)) = some r := by rw [if_pos rfl] at H; exact H
        clear H
        have H := H1
        clear H1
        replace H := Option.bind_eq_some_iff.mp H
        obtain ⟨t304, A60, H⟩ := H
        replace H : (some t304) = some r := H
        have A6 := Aside0.mk A60
        clear A60
        obtain rfl := Option.some.inj H
        go_wp2_with (first | ((with_reducible refine gate_callee (f := 9) rfl ?_); refine goesL_ (some 19) rfl rfl Try.func9 (by kernel_rfl) rfl #[] rfl (by (try simp only [List.map_toArray, List.map_cons, List.map_nil]); first | done | rfl | (simp only [List.length_drop, List.length_take]; rfl)) ?_; (with_reducible refine (certpathlaw01_awake.calls kj2  t304 _ A6.out).mono ?_); rintro e w7 ⟨rfl, hb⟩; refine ⟨_, rfl, ?_⟩; have n0_ := Aside0.mk (below_step (by repeat (first | (with_reducible first | exact HB.out | apply below_alloc | apply pw_below_drewN | apply below_drew1) | exact HB.out)) hb); clear HB; have HB := n0_; clear n0_; (try clear hb); (try clear hb2); (try clear hk); (try clear hi)))
        go_ret
        exact ⟨by first | rfl | (simp [errW_none, errW_some] <;> rfl) | (simp [*, errW_none, errW_some] <;> rfl), by repeat (first | (with_reducible first | exact HB.out | apply below_alloc | apply pw_below_drewN | apply below_drew1) | exact HB.out)⟩
      · replace c5 := Bool.eq_false_iff.mpr c5
        subst c5
        have H1 : ((hash_Hex.f kj2 a0).bind fun t305 => ((some (([a1, a0, t305] : List ByteArray) : List ByteArray)).bind fun y306 => (certpathlaw01_HashHex.l0 kj2 y306 (y306.length : Int) 0))) = some r := by rw [if_neg (show ¬ (false = true) by decide)] at H; exact H
        clear H
        have H := H1
        clear H1
        replace H := Option.bind_eq_some_iff.mp H
        obtain ⟨t305, A80, H⟩ := H
        replace H : ((some (([a1, a0, t305] : List ByteArray) : List ByteArray)).bind fun y306 => (certpathlaw01_HashHex.l0 kj2 y306 (y306.length : Int) 0)) = some r := H
        have A8 := Aside0.mk A80
        clear A80
        obtain ⟨y306, hy306⟩ : ∃ y_ : List ByteArray, y_ = (([a1, a0, t305] : List ByteArray)) := ⟨_, rfl⟩
        replace H : (certpathlaw01_HashHex.l0 kj2 y306 (y306.length : Int) 0) = some r := by first | (rw [hy306]; with_reducible exact H) | (have H2_ := (Option.bind_some _ _).symm.trans H; rw [hy306]; with_reducible exact H2_) | (have H2_ := (Option.bind_some _ _).symm.trans H; with_reducible exact H2_) | with_reducible exact H | (rw [hy306]; exact H) | exact H
        have Ny306 := Aside0.mk hy306
        clear hy306
        have H' := Aside0.mk H
        clear H
        go_wp2_with (first | ((with_reducible refine gate_callee (f := 18) rfl ?_); refine goesL_ (some 23) rfl rfl Try.func18 (by kernel_rfl) rfl #[.string a0] rfl (by (try simp only [List.map_toArray, List.map_cons, List.map_nil]); first | done | rfl | (simp only [List.length_drop, List.length_take]; rfl)) ?_; (with_reducible refine (hash_Hex.calls kj2 a0 t305 _ A8.out).mono ?_); rintro e w9 ⟨rfl, hb⟩; refine ⟨_, rfl, ?_⟩; have n0_ := Aside0.mk (below_step (by repeat (first | (with_reducible first | exact HB.out | apply below_alloc | apply pw_below_drewN | apply below_drew1) | exact HB.out)) hb); clear HB; have HB := n0_; clear n0_; (try clear hb); (try clear hb2); (try clear hk); (try clear hi)) | ((with_reducible refine gate_dst (N := 24) rfl ?_); (try (refine gate_guard (by rfl) ?_; dsimp only)); refine Kd.R_lit Kd.string _ 9 ?hg (N := 24) ?hd (xs := ([a1, a0, t305] : List ByteArray)) (inner := [.string a1, .string a0, .string t305]) (ok := fun _ => True) (okp := fun _ => True) ?hr ?hp (fun _ hk => hk) trivial (Below.refl _ _) (Nat.le_refl _) (by simp) ?_; (case hd => rfl); (case hg => rfl); (case hr => first | (go_simp; done) | (go_simp; rfl)); (case hp => exact (Reps.one (show Kd.M Kd.string _ _ _ a1 [.string a1] from rfl) (Reps.one (show Kd.M Kd.string _ _ _ a0 [.string a0] from rfl) (Reps.one (show Kd.M Kd.string _ _ _ t305 [.string t305] from rfl) (Reps.none _ _))))); intro v307 w10 ho11 hb hg_ hnew_; clear hg_ hnew_; (first | rw [← Ny306.out] at ho11 | (simp only [Int.reduceToNat] at ho11; rw [← Ny306.out] at ho11)); have n0_ := Aside0.mk (Kd.R_lower ho11 (below_size (by repeat (first | (with_reducible first | exact HB.out | apply below_alloc | apply pw_below_drewN | apply below_drew1) | exact HB.out)))); have n1_ := Aside0.mk (below_step (by repeat (first | (with_reducible first | exact HB.out | apply below_alloc | apply pw_below_drewN | apply below_drew1) | exact HB.out)) hb); clear HB; have HO308 := n0_; have HB := n1_; clear n0_ n1_; clear hb ho11; obtain ⟨Ao12, co12, eo12⟩ := Kd.R_slice HO308.out; subst eo12))
        go_loopg [26] kj2 (fun kq v26 w' => ∃ (x26_2 : Int), v26 = .int .i64 x26_2 ∧ Aside0 (certpathlaw01_HashHex.l0 kq y306 (y306.length : Int) x26_2 = some r) ∧ Aside0 (kq ≤ kj2) ∧ Aside0 (Kd.R Kd.string 9 w' w.heap.size (fun _ => True) (.slice Ao12 y306.length co12) y306) ∧ Aside0 (Below w.heap.size w w'))
        case atStart => exact ⟨(0), (by first | rfl | (simp; done) | (simp [*]; done)), H', ⟨Nat.le_refl _⟩, ⟨by (with_reducible repeat (first | apply Kd.R_alloc | apply Kd.R_drewN | apply Kd.R_drew)); exact HO308.out⟩, ⟨by repeat (first | (with_reducible first | exact HB.out | apply below_alloc | apply pw_below_drewN | apply below_drew1) | exact HB.out)⟩⟩
        case round =>
          clear H'
          try clear c1
          try clear p2
          try clear c4
          try clear c4b0
          try clear c4b1
          try clear c5
          try clear c7
          try clear c9
          try clear p2
          obtain ⟨x26_2, rfl, HA, HK2, HO_24, HB⟩ := hrel
          cases gk with
          | zero => exact absurd HA.out (by simp [certpathlaw01_HashHex.l0])
          | succ k2 =>
            have H := HA.out
            clear HA
            simp only [certpathlaw01_HashHex.l0] at H
            by_cases c13 : x26_2 < (y306.length : Int)
            · rw [if_pos c13] at H
              have c13b0 : decide (x26_2 < (y306.length : Int)) = true := decide_eq_true c13
              clear c13
              by_cases c14 : 0 ≤ x26_2
              · rw [if_pos c14] at H
                have c14b0 : decide (0 ≤ x26_2) = true := decide_eq_true c14
                clear c14
                by_cases c15 : x26_2 < (y306.length : Int)
                · rw [if_pos c15] at H
                  have c15b0 : decide (x26_2 < (y306.length : Int)) = true := decide_eq_true c15
                  clear c15
                  replace H := Option.bind_eq_some_iff.mp H
                  obtain ⟨⟨t311, t312⟩, A160, H⟩ := H
                  replace H : ((certpathref01_Unhex.f k2 (rdOf ByteArray.empty y306 x26_2)).bind fun bt313 => (if t311.toList = bt313.1.toList then (if (t312 != bt313.2) = true then (some false) else (if t312 = true then ((hash_Hex.f k2 t311).bind fun t315 => (if t315.toList = (rdOf ByteArray.empty y306 x26_2).toList then ((hash_Hex.f k2 (rdOf ByteArray.empty y306 x26_2)).bind fun t316 => ((certpathref01_Hex.f k2 (rdOf ByteArray.empty y306 x26_2)).bind fun t317 => (if t316.toList = t317.toList then (certpathlaw01_HashHex.l0 k2 y306 (y306.length : Int) (wrap64 (x26_2 + 1))) else (some false)))) else (some false))) else ((hash_Hex.f k2 (rdOf ByteArray.empty y306 x26_2)).bind fun t318 => ((certpathref01_Hex.f k2 (rdOf ByteArray.empty y306 x26_2)).bind fun t319 => (if t318.toList = t319.toList then (certpathlaw01_HashHex.l0 k2 y306 (y306.length : Int) (wrap64 (x26_2 + 1))) else (some false)))))) else (some false))) = some r := H
                  have A16 := Aside0.mk A160
                  clear A160
                  replace H := Option.bind_eq_some_iff.mp H
                  obtain ⟨⟨t313, t314⟩, A170, H⟩ := H
                  replace H : (if t311.toList = t313.toList then (if (t312 != t314) = true then (some false) else (if t312 = true then ((hash_Hex.f k2 t311).bind fun t315 => (if t315.toList = (rdOf ByteArray.empty y306 x26_2).toList then ((hash_Hex.f k2 (rdOf ByteArray.empty y306 x26_2)).bind fun t316 => ((certpathref01_Hex.f k2 (rdOf ByteArray.empty y306 x26_2)).bind fun t317 => (if t316.toList = t317.toList then (certpathlaw01_HashHex.l0 k2 y306 (y306.length : Int) (wrap64 (x26_2 + 1))) else (some false)))) else (some false))) else ((hash_Hex.f k2 (rdOf ByteArray.empty y306 x26_2)).bind fun t318 => ((certpathref01_Hex.f k2 (rdOf ByteArray.empty y306 x26_2)).bind fun t319 => (if t318.toList = t319.toList then (certpathlaw01_HashHex.l0 k2 y306 (y306.length : Int) (wrap64 (x26_2 + 1))) else (some false)))))) else (some false)) = some r := H
                  have A17 := Aside0.mk A170
                  clear A170
                  by_cases c18 : t311.toList = t313.toList
                  · rw [if_pos c18] at H
                    have c18b0 : (t311.toList == t313.toList) = true := beq_iff_eq.mpr c18
                    have c18b1 : (t311.toList != t313.toList) = false := bne_eq_false_iff_eq.mpr c18
                    clear c18
                    by_cases c19 : (t312 != t314) = true
                    · rw [if_pos c19] at H
                      have c19b0 : (t312 != t314) = true := c19
                      (try (have c19b1 : decide (t312 = t314) = false := by simpa using c19))
                      (try (have c19b2 : (t312 == t314) = false := by simpa using c19))
                      (try (have c19b3 : ¬ (t312 = t314) := by simpa using c19))
                      clear c19
                      obtain rfl := Option.some.inj H
                      have p310 : 0 ≤ (x26_2 : Int) := of_decide_eq_true (by first | (with_reducible assumption) | assumption)
                      have q310 : x26_2 < (y306.length : Int) := of_decide_eq_true (by first | (with_reducible assumption) | assumption)
                      obtain ⟨ad310, e310, hx310_0⟩ := Kd.at_string (Kd.R_reads' HO_24.out).2.2 x26_2 p310 q310
                      cases e310
                      replace p310 := eq_true p310
                      replace q310 := eq_true q310
                      go_wp2_with (first | ((with_reducible refine gate_callee (f := 19) rfl ?_); refine goesL_ (some 32) rfl rfl Try.func19 (by kernel_rfl) rfl #[.string (rdOf ByteArray.empty y306 x26_2)] rfl (by (try simp only [List.map_toArray, List.map_cons, List.map_nil]); first | done | rfl | (simp only [List.length_drop, List.length_take]; rfl)) ?_; (with_reducible refine (hash_Unhex.calls k2 (rdOf ByteArray.empty y306 x26_2) t311 t312 _ A16.out).mono ?_); rintro e w20 ⟨rfl, hb⟩; refine ⟨_, rfl, ?_⟩; have n0_ := Aside0.mk (Kd.R_below (by (with_reducible repeat (first | apply Kd.R_alloc | apply Kd.R_drewN | apply Kd.R_drew)); exact HO_24.out) hb); have n1_ := Aside0.mk (below_step (by repeat (first | (with_reducible first | exact HB.out | apply below_alloc | apply pw_below_drewN | apply below_drew1) | exact HB.out)) hb); clear HO_24; clear HB; have HO_24 := n0_; have HB := n1_; clear n0_ n1_; (try clear hb); (try clear hb2); (try clear hk); (try clear hi)) | ((with_reducible refine gate_callee (f := 20) rfl ?_); refine goesL_ (some 37) rfl rfl Try.func20 (by kernel_rfl) rfl #[.string (rdOf ByteArray.empty y306 x26_2)] rfl (by (try simp only [List.map_toArray, List.map_cons, List.map_nil]); first | done | rfl | (simp only [List.length_drop, List.length_take]; rfl)) ?_; (with_reducible refine (certpathref01_Unhex.calls k2 (rdOf ByteArray.empty y306 x26_2) t313 t314 _ A17.out).mono ?_); rintro e w21 ⟨rfl, hb⟩; refine ⟨_, rfl, ?_⟩; have n0_ := Aside0.mk (Kd.R_below (by (with_reducible repeat (first | apply Kd.R_alloc | apply Kd.R_drewN | apply Kd.R_drew)); exact HO_24.out) hb); have n1_ := Aside0.mk (below_step (by repeat (first | (with_reducible first | exact HB.out | apply below_alloc | apply pw_below_drewN | apply below_drew1) | exact HB.out)) hb); clear HO_24; clear HB; have HO_24 := n0_; have HB := n1_; clear n0_ n1_; (try clear hb); (try clear hb2); (try clear hk); (try clear hi)))
                      go_ret
                      exact ⟨by first | rfl | (simp [errW_none, errW_some] <;> rfl) | (simp [*, errW_none, errW_some] <;> rfl), by repeat (first | (with_reducible first | exact HB.out | apply below_alloc | apply pw_below_drewN | apply below_drew1) | exact HB.out)⟩
                    · rw [if_neg c19] at H
                      have c19b0 : (t312 != t314) = false := by simpa using c19
                      (try (have c19b1 : decide (t312 = t314) = true := by simpa using c19))
                      (try (have c19b2 : (t312 == t314) = true := by simpa using c19))
                      clear c19
                      by_cases c22 : t312 = true
                      · subst c22
                        have H1 : ((hash_Hex.f k2 t311).bind fun t315 => (if t315.toList = (rdOf ByteArray.empty y306 x26_2).toList then ((hash_Hex.f k2 (rdOf ByteArray.empty y306 x26_2)).bind fun t316 => ((certpathref01_Hex.f k2 (rdOf ByteArray.empty y306 x26_2)).bind fun t317 => (if t316.toList = t317.toList then (certpathlaw01_HashHex.l0 k2 y306 (y306.length : Int) (wrap64 (x26_2 + 1))) else (some false)))) else (some false))) = some r := by rw [if_pos rfl] at H; exact H
                        clear H
                        have H := H1
                        clear H1
                        replace H := Option.bind_eq_some_iff.mp H
                        obtain ⟨t315, A230, H⟩ := H
                        replace H : (if t315.toList = (rdOf ByteArray.empty y306 x26_2).toList then ((hash_Hex.f k2 (rdOf ByteArray.empty y306 x26_2)).bind fun t316 => ((certpathref01_Hex.f k2 (rdOf ByteArray.empty y306 x26_2)).bind fun t317 => (if t316.toList = t317.toList then (certpathlaw01_HashHex.l0 k2 y306 (y306.length : Int) (wrap64 (x26_2 + 1))) else (some false)))) else (some false)) = some r := H
                        have A23 := Aside0.mk A230
                        clear A230
                        by_cases c24 : t315.toList = (rdOf ByteArray.empty y306 x26_2).toList
                        · rw [if_pos c24] at H
                          have c24b0 : (t315.toList == (rdOf ByteArray.empty y306 x26_2).toList) = true := beq_iff_eq.mpr c24
                          have c24b1 : (t315.toList != (rdOf ByteArray.empty y306 x26_2).toList) = false := bne_eq_false_iff_eq.mpr c24
                          clear c24
                          replace H := Option.bind_eq_some_iff.mp H
                          obtain ⟨t316, A250, H⟩ := H
                          replace H : ((certpathref01_Hex.f k2 (rdOf ByteArray.empty y306 x26_2)).bind fun t317 => (if t316.toList = t317.toList then (certpathlaw01_HashHex.l0 k2 y306 (y306.length : Int) (wrap64 (x26_2 + 1))) else (some false))) = some r := H
                          have A25 := Aside0.mk A250
                          clear A250
                          replace H := Option.bind_eq_some_iff.mp H
                          obtain ⟨t317, A260, H⟩ := H
                          replace H : (if t316.toList = t317.toList then (certpathlaw01_HashHex.l0 k2 y306 (y306.length : Int) (wrap64 (x26_2 + 1))) else (some false)) = some r := H
                          have A26 := Aside0.mk A260
                          clear A260
                          by_cases c27 : t316.toList = t317.toList
                          · rw [if_pos c27] at H
                            have c27b0 : (t316.toList == t317.toList) = true := beq_iff_eq.mpr c27
                            have c27b1 : (t316.toList != t317.toList) = false := bne_eq_false_iff_eq.mpr c27
                            clear c27
                            have H' := Aside0.mk H
                            clear H
                            have p310 : 0 ≤ (x26_2 : Int) := of_decide_eq_true (by first | (with_reducible assumption) | assumption)
                            have q310 : x26_2 < (y306.length : Int) := of_decide_eq_true (by first | (with_reducible assumption) | assumption)
                            obtain ⟨ad310, e310, hx310_0⟩ := Kd.at_string (Kd.R_reads' HO_24.out).2.2 x26_2 p310 q310
                            cases e310
                            replace p310 := eq_true p310
                            replace q310 := eq_true q310
                            go_wp2_with (first | ((with_reducible refine gate_callee (f := 19) rfl ?_); refine goesL_ (some 32) rfl rfl Try.func19 (by kernel_rfl) rfl #[.string (rdOf ByteArray.empty y306 x26_2)] rfl (by (try simp only [List.map_toArray, List.map_cons, List.map_nil]); first | done | rfl | (simp only [List.length_drop, List.length_take]; rfl)) ?_; (with_reducible refine (hash_Unhex.calls k2 (rdOf ByteArray.empty y306 x26_2) t311 true _ A16.out).mono ?_); rintro e w28 ⟨rfl, hb⟩; refine ⟨_, rfl, ?_⟩; have n0_ := Aside0.mk (Kd.R_below (by (with_reducible repeat (first | apply Kd.R_alloc | apply Kd.R_drewN | apply Kd.R_drew)); exact HO_24.out) hb); have n1_ := Aside0.mk (below_step (by repeat (first | (with_reducible first | exact HB.out | apply below_alloc | apply pw_below_drewN | apply below_drew1) | exact HB.out)) hb); clear HO_24; clear HB; have HO_24 := n0_; have HB := n1_; clear n0_ n1_; (try clear hb); (try clear hb2); (try clear hk); (try clear hi)) | ((with_reducible refine gate_callee (f := 20) rfl ?_); refine goesL_ (some 37) rfl rfl Try.func20 (by kernel_rfl) rfl #[.string (rdOf ByteArray.empty y306 x26_2)] rfl (by (try simp only [List.map_toArray, List.map_cons, List.map_nil]); first | done | rfl | (simp only [List.length_drop, List.length_take]; rfl)) ?_; (with_reducible refine (certpathref01_Unhex.calls k2 (rdOf ByteArray.empty y306 x26_2) t313 t314 _ A17.out).mono ?_); rintro e w29 ⟨rfl, hb⟩; refine ⟨_, rfl, ?_⟩; have n0_ := Aside0.mk (Kd.R_below (by (with_reducible repeat (first | apply Kd.R_alloc | apply Kd.R_drewN | apply Kd.R_drew)); exact HO_24.out) hb); have n1_ := Aside0.mk (below_step (by repeat (first | (with_reducible first | exact HB.out | apply below_alloc | apply pw_below_drewN | apply below_drew1) | exact HB.out)) hb); clear HO_24; clear HB; have HO_24 := n0_; have HB := n1_; clear n0_ n1_; (try clear hb); (try clear hb2); (try clear hk); (try clear hi)) | (go_at_call 18; (with_reducible refine (hash_Hex.calls k2 t311 t315 _ A23.out).mono ?_); rintro e w30 ⟨rfl, hb⟩; have n0_ := Aside0.mk (Kd.R_below (by (with_reducible repeat (first | apply Kd.R_alloc | apply Kd.R_drewN | apply Kd.R_drew)); exact HO_24.out) hb); have n1_ := Aside0.mk (below_step (by repeat (first | (with_reducible first | exact HB.out | apply below_alloc | apply pw_below_drewN | apply below_drew1) | exact HB.out)) hb); clear HO_24; clear HB; have HO_24 := n0_; have HB := n1_; clear n0_ n1_; (try clear hb); (try clear hb2); (try clear hk); (try clear hi)) | (go_at_call 18; (with_reducible refine (hash_Hex.calls k2 (rdOf ByteArray.empty y306 x26_2) t316 _ A25.out).mono ?_); rintro e w31 ⟨rfl, hb⟩; have n0_ := Aside0.mk (Kd.R_below (by (with_reducible repeat (first | apply Kd.R_alloc | apply Kd.R_drewN | apply Kd.R_drew)); exact HO_24.out) hb); have n1_ := Aside0.mk (below_step (by repeat (first | (with_reducible first | exact HB.out | apply below_alloc | apply pw_below_drewN | apply below_drew1) | exact HB.out)) hb); clear HO_24; clear HB; have HO_24 := n0_; have HB := n1_; clear n0_ n1_; (try clear hb); (try clear hb2); (try clear hk); (try clear hi)) | (go_at_call 21; (with_reducible refine (certpathref01_Hex.calls k2 (rdOf ByteArray.empty y306 x26_2) t317 _ A26.out).mono ?_); rintro e w32 ⟨rfl, hb⟩; have n0_ := Aside0.mk (Kd.R_below (by (with_reducible repeat (first | apply Kd.R_alloc | apply Kd.R_drewN | apply Kd.R_drew)); exact HO_24.out) hb); have n1_ := Aside0.mk (below_step (by repeat (first | (with_reducible first | exact HB.out | apply below_alloc | apply pw_below_drewN | apply below_drew1) | exact HB.out)) hb); clear HO_24; clear HB; have HO_24 := n0_; have HB := n1_; clear n0_ n1_; (try clear hb); (try clear hb2); (try clear hk); (try clear hi)))
                            go_roundg k2
                            case measure => have := HJ2.out; have := HK2.out; omega
                            case rel => exact ⟨(wrap64 (x26_2 + 1)), (by first | rfl | (simp; done) | (simp [*]; done)), H', ⟨by have := HJ2.out; have := HK2.out; omega⟩, ⟨by (with_reducible repeat (first | apply Kd.R_alloc | apply Kd.R_drewN | apply Kd.R_drew)); exact HO_24.out⟩, ⟨by repeat (first | (with_reducible first | exact HB.out | apply below_alloc | apply pw_below_drewN | apply below_drew1) | exact HB.out)⟩⟩
                          · rw [if_neg c27] at H
                            have c27b0 : (t316.toList == t317.toList) = false := beq_eq_false_iff_ne.mpr c27
                            have c27b1 : (t316.toList != t317.toList) = true := bne_iff_ne.mpr c27
                            obtain rfl := Option.some.inj H
                            have p310 : 0 ≤ (x26_2 : Int) := of_decide_eq_true (by first | (with_reducible assumption) | assumption)
                            have q310 : x26_2 < (y306.length : Int) := of_decide_eq_true (by first | (with_reducible assumption) | assumption)
                            obtain ⟨ad310, e310, hx310_0⟩ := Kd.at_string (Kd.R_reads' HO_24.out).2.2 x26_2 p310 q310
                            cases e310
                            replace p310 := eq_true p310
                            replace q310 := eq_true q310
                            go_wp2_with (first | ((with_reducible refine gate_callee (f := 19) rfl ?_); refine goesL_ (some 32) rfl rfl Try.func19 (by kernel_rfl) rfl #[.string (rdOf ByteArray.empty y306 x26_2)] rfl (by (try simp only [List.map_toArray, List.map_cons, List.map_nil]); first | done | rfl | (simp only [List.length_drop, List.length_take]; rfl)) ?_; (with_reducible refine (hash_Unhex.calls k2 (rdOf ByteArray.empty y306 x26_2) t311 true _ A16.out).mono ?_); rintro e w33 ⟨rfl, hb⟩; refine ⟨_, rfl, ?_⟩; have n0_ := Aside0.mk (Kd.R_below (by (with_reducible repeat (first | apply Kd.R_alloc | apply Kd.R_drewN | apply Kd.R_drew)); exact HO_24.out) hb); have n1_ := Aside0.mk (below_step (by repeat (first | (with_reducible first | exact HB.out | apply below_alloc | apply pw_below_drewN | apply below_drew1) | exact HB.out)) hb); clear HO_24; clear HB; have HO_24 := n0_; have HB := n1_; clear n0_ n1_; (try clear hb); (try clear hb2); (try clear hk); (try clear hi)) | ((with_reducible refine gate_callee (f := 20) rfl ?_); refine goesL_ (some 37) rfl rfl Try.func20 (by kernel_rfl) rfl #[.string (rdOf ByteArray.empty y306 x26_2)] rfl (by (try simp only [List.map_toArray, List.map_cons, List.map_nil]); first | done | rfl | (simp only [List.length_drop, List.length_take]; rfl)) ?_; (with_reducible refine (certpathref01_Unhex.calls k2 (rdOf ByteArray.empty y306 x26_2) t313 t314 _ A17.out).mono ?_); rintro e w34 ⟨rfl, hb⟩; refine ⟨_, rfl, ?_⟩; have n0_ := Aside0.mk (Kd.R_below (by (with_reducible repeat (first | apply Kd.R_alloc | apply Kd.R_drewN | apply Kd.R_drew)); exact HO_24.out) hb); have n1_ := Aside0.mk (below_step (by repeat (first | (with_reducible first | exact HB.out | apply below_alloc | apply pw_below_drewN | apply below_drew1) | exact HB.out)) hb); clear HO_24; clear HB; have HO_24 := n0_; have HB := n1_; clear n0_ n1_; (try clear hb); (try clear hb2); (try clear hk); (try clear hi)) | (go_at_call 18; (with_reducible refine (hash_Hex.calls k2 t311 t315 _ A23.out).mono ?_); rintro e w35 ⟨rfl, hb⟩; have n0_ := Aside0.mk (Kd.R_below (by (with_reducible repeat (first | apply Kd.R_alloc | apply Kd.R_drewN | apply Kd.R_drew)); exact HO_24.out) hb); have n1_ := Aside0.mk (below_step (by repeat (first | (with_reducible first | exact HB.out | apply below_alloc | apply pw_below_drewN | apply below_drew1) | exact HB.out)) hb); clear HO_24; clear HB; have HO_24 := n0_; have HB := n1_; clear n0_ n1_; (try clear hb); (try clear hb2); (try clear hk); (try clear hi)) | (go_at_call 18; (with_reducible refine (hash_Hex.calls k2 (rdOf ByteArray.empty y306 x26_2) t316 _ A25.out).mono ?_); rintro e w36 ⟨rfl, hb⟩; have n0_ := Aside0.mk (Kd.R_below (by (with_reducible repeat (first | apply Kd.R_alloc | apply Kd.R_drewN | apply Kd.R_drew)); exact HO_24.out) hb); have n1_ := Aside0.mk (below_step (by repeat (first | (with_reducible first | exact HB.out | apply below_alloc | apply pw_below_drewN | apply below_drew1) | exact HB.out)) hb); clear HO_24; clear HB; have HO_24 := n0_; have HB := n1_; clear n0_ n1_; (try clear hb); (try clear hb2); (try clear hk); (try clear hi)) | (go_at_call 21; (with_reducible refine (certpathref01_Hex.calls k2 (rdOf ByteArray.empty y306 x26_2) t317 _ A26.out).mono ?_); rintro e w37 ⟨rfl, hb⟩; have n0_ := Aside0.mk (Kd.R_below (by (with_reducible repeat (first | apply Kd.R_alloc | apply Kd.R_drewN | apply Kd.R_drew)); exact HO_24.out) hb); have n1_ := Aside0.mk (below_step (by repeat (first | (with_reducible first | exact HB.out | apply below_alloc | apply pw_below_drewN | apply below_drew1) | exact HB.out)) hb); clear HO_24; clear HB; have HO_24 := n0_; have HB := n1_; clear n0_ n1_; (try clear hb); (try clear hb2); (try clear hk); (try clear hi)))
                            go_ret
                            exact ⟨by first | rfl | (simp [errW_none, errW_some] <;> rfl) | (simp [*, errW_none, errW_some] <;> rfl), by repeat (first | (with_reducible first | exact HB.out | apply below_alloc | apply pw_below_drewN | apply below_drew1) | exact HB.out)⟩
                        · rw [if_neg c24] at H
                          have c24b0 : (t315.toList == (rdOf ByteArray.empty y306 x26_2).toList) = false := beq_eq_false_iff_ne.mpr c24
                          have c24b1 : (t315.toList != (rdOf ByteArray.empty y306 x26_2).toList) = true := bne_iff_ne.mpr c24
                          obtain rfl := Option.some.inj H
                          have p310 : 0 ≤ (x26_2 : Int) := of_decide_eq_true (by first | (with_reducible assumption) | assumption)
                          have q310 : x26_2 < (y306.length : Int) := of_decide_eq_true (by first | (with_reducible assumption) | assumption)
                          obtain ⟨ad310, e310, hx310_0⟩ := Kd.at_string (Kd.R_reads' HO_24.out).2.2 x26_2 p310 q310
                          cases e310
                          replace p310 := eq_true p310
                          replace q310 := eq_true q310
                          go_wp2_with (first | ((with_reducible refine gate_callee (f := 19) rfl ?_); refine goesL_ (some 32) rfl rfl Try.func19 (by kernel_rfl) rfl #[.string (rdOf ByteArray.empty y306 x26_2)] rfl (by (try simp only [List.map_toArray, List.map_cons, List.map_nil]); first | done | rfl | (simp only [List.length_drop, List.length_take]; rfl)) ?_; (with_reducible refine (hash_Unhex.calls k2 (rdOf ByteArray.empty y306 x26_2) t311 true _ A16.out).mono ?_); rintro e w38 ⟨rfl, hb⟩; refine ⟨_, rfl, ?_⟩; have n0_ := Aside0.mk (Kd.R_below (by (with_reducible repeat (first | apply Kd.R_alloc | apply Kd.R_drewN | apply Kd.R_drew)); exact HO_24.out) hb); have n1_ := Aside0.mk (below_step (by repeat (first | (with_reducible first | exact HB.out | apply below_alloc | apply pw_below_drewN | apply below_drew1) | exact HB.out)) hb); clear HO_24; clear HB; have HO_24 := n0_; have HB := n1_; clear n0_ n1_; (try clear hb); (try clear hb2); (try clear hk); (try clear hi)) | ((with_reducible refine gate_callee (f := 20) rfl ?_); refine goesL_ (some 37) rfl rfl Try.func20 (by kernel_rfl) rfl #[.string (rdOf ByteArray.empty y306 x26_2)] rfl (by (try simp only [List.map_toArray, List.map_cons, List.map_nil]); first | done | rfl | (simp only [List.length_drop, List.length_take]; rfl)) ?_; (with_reducible refine (certpathref01_Unhex.calls k2 (rdOf ByteArray.empty y306 x26_2) t313 t314 _ A17.out).mono ?_); rintro e w39 ⟨rfl, hb⟩; refine ⟨_, rfl, ?_⟩; have n0_ := Aside0.mk (Kd.R_below (by (with_reducible repeat (first | apply Kd.R_alloc | apply Kd.R_drewN | apply Kd.R_drew)); exact HO_24.out) hb); have n1_ := Aside0.mk (below_step (by repeat (first | (with_reducible first | exact HB.out | apply below_alloc | apply pw_below_drewN | apply below_drew1) | exact HB.out)) hb); clear HO_24; clear HB; have HO_24 := n0_; have HB := n1_; clear n0_ n1_; (try clear hb); (try clear hb2); (try clear hk); (try clear hi)) | (go_at_call 18; (with_reducible refine (hash_Hex.calls k2 t311 t315 _ A23.out).mono ?_); rintro e w40 ⟨rfl, hb⟩; have n0_ := Aside0.mk (Kd.R_below (by (with_reducible repeat (first | apply Kd.R_alloc | apply Kd.R_drewN | apply Kd.R_drew)); exact HO_24.out) hb); have n1_ := Aside0.mk (below_step (by repeat (first | (with_reducible first | exact HB.out | apply below_alloc | apply pw_below_drewN | apply below_drew1) | exact HB.out)) hb); clear HO_24; clear HB; have HO_24 := n0_; have HB := n1_; clear n0_ n1_; (try clear hb); (try clear hb2); (try clear hk); (try clear hi)))
                          go_ret
                          exact ⟨by first | rfl | (simp [errW_none, errW_some] <;> rfl) | (simp [*, errW_none, errW_some] <;> rfl), by repeat (first | (with_reducible first | exact HB.out | apply below_alloc | apply pw_below_drewN | apply below_drew1) | exact HB.out)⟩
                      · replace c22 := Bool.eq_false_iff.mpr c22
                        subst c22
                        have H1 : ((hash_Hex.f k2 (rdOf ByteArray.empty y306 x26_2)).bind fun t318 => ((certpathref01_Hex.f k2 (rdOf ByteArray.empty y306 x26_2)).bind fun t319 => (if t318.toList = t319.toList then (certpathlaw01_HashHex.l0 k2 y306 (y306.length : Int) (wrap64 (x26_2 + 1))) else (some false)))) = some r := by rw [if_neg (show ¬ (false = true) by decide)] at H; exact H
                        clear H
                        have H := H1
                        clear H1
                        replace H := Option.bind_eq_some_iff.mp H
                        obtain ⟨t318, A410, H⟩ := H
                        replace H : ((certpathref01_Hex.f k2 (rdOf ByteArray.empty y306 x26_2)).bind fun t319 => (if t318.toList = t319.toList then (certpathlaw01_HashHex.l0 k2 y306 (y306.length : Int) (wrap64 (x26_2 + 1))) else (some false))) = some r := H
                        have A41 := Aside0.mk A410
                        clear A410
                        replace H := Option.bind_eq_some_iff.mp H
                        obtain ⟨t319, A420, H⟩ := H
                        replace H : (if t318.toList = t319.toList then (certpathlaw01_HashHex.l0 k2 y306 (y306.length : Int) (wrap64 (x26_2 + 1))) else (some false)) = some r := H
                        have A42 := Aside0.mk A420
                        clear A420
                        by_cases c43 : t318.toList = t319.toList
                        · rw [if_pos c43] at H
                          have c43b0 : (t318.toList == t319.toList) = true := beq_iff_eq.mpr c43
                          have c43b1 : (t318.toList != t319.toList) = false := bne_eq_false_iff_eq.mpr c43
                          clear c43
                          have H' := Aside0.mk H
                          clear H
                          have p310 : 0 ≤ (x26_2 : Int) := of_decide_eq_true (by first | (with_reducible assumption) | assumption)
                          have q310 : x26_2 < (y306.length : Int) := of_decide_eq_true (by first | (with_reducible assumption) | assumption)
                          obtain ⟨ad310, e310, hx310_0⟩ := Kd.at_string (Kd.R_reads' HO_24.out).2.2 x26_2 p310 q310
                          cases e310
                          replace p310 := eq_true p310
                          replace q310 := eq_true q310
                          go_wp2_with (first | ((with_reducible refine gate_callee (f := 19) rfl ?_); refine goesL_ (some 32) rfl rfl Try.func19 (by kernel_rfl) rfl #[.string (rdOf ByteArray.empty y306 x26_2)] rfl (by (try simp only [List.map_toArray, List.map_cons, List.map_nil]); first | done | rfl | (simp only [List.length_drop, List.length_take]; rfl)) ?_; (with_reducible refine (hash_Unhex.calls k2 (rdOf ByteArray.empty y306 x26_2) t311 false _ A16.out).mono ?_); rintro e w44 ⟨rfl, hb⟩; refine ⟨_, rfl, ?_⟩; have n0_ := Aside0.mk (Kd.R_below (by (with_reducible repeat (first | apply Kd.R_alloc | apply Kd.R_drewN | apply Kd.R_drew)); exact HO_24.out) hb); have n1_ := Aside0.mk (below_step (by repeat (first | (with_reducible first | exact HB.out | apply below_alloc | apply pw_below_drewN | apply below_drew1) | exact HB.out)) hb); clear HO_24; clear HB; have HO_24 := n0_; have HB := n1_; clear n0_ n1_; (try clear hb); (try clear hb2); (try clear hk); (try clear hi)) | ((with_reducible refine gate_callee (f := 20) rfl ?_); refine goesL_ (some 37) rfl rfl Try.func20 (by kernel_rfl) rfl #[.string (rdOf ByteArray.empty y306 x26_2)] rfl (by (try simp only [List.map_toArray, List.map_cons, List.map_nil]); first | done | rfl | (simp only [List.length_drop, List.length_take]; rfl)) ?_; (with_reducible refine (certpathref01_Unhex.calls k2 (rdOf ByteArray.empty y306 x26_2) t313 t314 _ A17.out).mono ?_); rintro e w45 ⟨rfl, hb⟩; refine ⟨_, rfl, ?_⟩; have n0_ := Aside0.mk (Kd.R_below (by (with_reducible repeat (first | apply Kd.R_alloc | apply Kd.R_drewN | apply Kd.R_drew)); exact HO_24.out) hb); have n1_ := Aside0.mk (below_step (by repeat (first | (with_reducible first | exact HB.out | apply below_alloc | apply pw_below_drewN | apply below_drew1) | exact HB.out)) hb); clear HO_24; clear HB; have HO_24 := n0_; have HB := n1_; clear n0_ n1_; (try clear hb); (try clear hb2); (try clear hk); (try clear hi)) | (go_at_call 18; (with_reducible refine (hash_Hex.calls k2 (rdOf ByteArray.empty y306 x26_2) t318 _ A41.out).mono ?_); rintro e w46 ⟨rfl, hb⟩; have n0_ := Aside0.mk (Kd.R_below (by (with_reducible repeat (first | apply Kd.R_alloc | apply Kd.R_drewN | apply Kd.R_drew)); exact HO_24.out) hb); have n1_ := Aside0.mk (below_step (by repeat (first | (with_reducible first | exact HB.out | apply below_alloc | apply pw_below_drewN | apply below_drew1) | exact HB.out)) hb); clear HO_24; clear HB; have HO_24 := n0_; have HB := n1_; clear n0_ n1_; (try clear hb); (try clear hb2); (try clear hk); (try clear hi)) | (go_at_call 21; (with_reducible refine (certpathref01_Hex.calls k2 (rdOf ByteArray.empty y306 x26_2) t319 _ A42.out).mono ?_); rintro e w47 ⟨rfl, hb⟩; have n0_ := Aside0.mk (Kd.R_below (by (with_reducible repeat (first | apply Kd.R_alloc | apply Kd.R_drewN | apply Kd.R_drew)); exact HO_24.out) hb); have n1_ := Aside0.mk (below_step (by repeat (first | (with_reducible first | exact HB.out | apply below_alloc | apply pw_below_drewN | apply below_drew1) | exact HB.out)) hb); clear HO_24; clear HB; have HO_24 := n0_; have HB := n1_; clear n0_ n1_; (try clear hb); (try clear hb2); (try clear hk); (try clear hi)))
                          go_roundg k2
                          case measure => have := HJ2.out; have := HK2.out; omega
                          case rel => exact ⟨(wrap64 (x26_2 + 1)), (by first | rfl | (simp; done) | (simp [*]; done)), H', ⟨by have := HJ2.out; have := HK2.out; omega⟩, ⟨by (with_reducible repeat (first | apply Kd.R_alloc | apply Kd.R_drewN | apply Kd.R_drew)); exact HO_24.out⟩, ⟨by repeat (first | (with_reducible first | exact HB.out | apply below_alloc | apply pw_below_drewN | apply below_drew1) | exact HB.out)⟩⟩
                        · rw [if_neg c43] at H
                          have c43b0 : (t318.toList == t319.toList) = false := beq_eq_false_iff_ne.mpr c43
                          have c43b1 : (t318.toList != t319.toList) = true := bne_iff_ne.mpr c43
                          obtain rfl := Option.some.inj H
                          have p310 : 0 ≤ (x26_2 : Int) := of_decide_eq_true (by first | (with_reducible assumption) | assumption)
                          have q310 : x26_2 < (y306.length : Int) := of_decide_eq_true (by first | (with_reducible assumption) | assumption)
                          obtain ⟨ad310, e310, hx310_0⟩ := Kd.at_string (Kd.R_reads' HO_24.out).2.2 x26_2 p310 q310
                          cases e310
                          replace p310 := eq_true p310
                          replace q310 := eq_true q310
                          go_wp2_with (first | ((with_reducible refine gate_callee (f := 19) rfl ?_); refine goesL_ (some 32) rfl rfl Try.func19 (by kernel_rfl) rfl #[.string (rdOf ByteArray.empty y306 x26_2)] rfl (by (try simp only [List.map_toArray, List.map_cons, List.map_nil]); first | done | rfl | (simp only [List.length_drop, List.length_take]; rfl)) ?_; (with_reducible refine (hash_Unhex.calls k2 (rdOf ByteArray.empty y306 x26_2) t311 false _ A16.out).mono ?_); rintro e w48 ⟨rfl, hb⟩; refine ⟨_, rfl, ?_⟩; have n0_ := Aside0.mk (Kd.R_below (by (with_reducible repeat (first | apply Kd.R_alloc | apply Kd.R_drewN | apply Kd.R_drew)); exact HO_24.out) hb); have n1_ := Aside0.mk (below_step (by repeat (first | (with_reducible first | exact HB.out | apply below_alloc | apply pw_below_drewN | apply below_drew1) | exact HB.out)) hb); clear HO_24; clear HB; have HO_24 := n0_; have HB := n1_; clear n0_ n1_; (try clear hb); (try clear hb2); (try clear hk); (try clear hi)) | ((with_reducible refine gate_callee (f := 20) rfl ?_); refine goesL_ (some 37) rfl rfl Try.func20 (by kernel_rfl) rfl #[.string (rdOf ByteArray.empty y306 x26_2)] rfl (by (try simp only [List.map_toArray, List.map_cons, List.map_nil]); first | done | rfl | (simp only [List.length_drop, List.length_take]; rfl)) ?_; (with_reducible refine (certpathref01_Unhex.calls k2 (rdOf ByteArray.empty y306 x26_2) t313 t314 _ A17.out).mono ?_); rintro e w49 ⟨rfl, hb⟩; refine ⟨_, rfl, ?_⟩; have n0_ := Aside0.mk (Kd.R_below (by (with_reducible repeat (first | apply Kd.R_alloc | apply Kd.R_drewN | apply Kd.R_drew)); exact HO_24.out) hb); have n1_ := Aside0.mk (below_step (by repeat (first | (with_reducible first | exact HB.out | apply below_alloc | apply pw_below_drewN | apply below_drew1) | exact HB.out)) hb); clear HO_24; clear HB; have HO_24 := n0_; have HB := n1_; clear n0_ n1_; (try clear hb); (try clear hb2); (try clear hk); (try clear hi)) | (go_at_call 18; (with_reducible refine (hash_Hex.calls k2 (rdOf ByteArray.empty y306 x26_2) t318 _ A41.out).mono ?_); rintro e w50 ⟨rfl, hb⟩; have n0_ := Aside0.mk (Kd.R_below (by (with_reducible repeat (first | apply Kd.R_alloc | apply Kd.R_drewN | apply Kd.R_drew)); exact HO_24.out) hb); have n1_ := Aside0.mk (below_step (by repeat (first | (with_reducible first | exact HB.out | apply below_alloc | apply pw_below_drewN | apply below_drew1) | exact HB.out)) hb); clear HO_24; clear HB; have HO_24 := n0_; have HB := n1_; clear n0_ n1_; (try clear hb); (try clear hb2); (try clear hk); (try clear hi)) | (go_at_call 21; (with_reducible refine (certpathref01_Hex.calls k2 (rdOf ByteArray.empty y306 x26_2) t319 _ A42.out).mono ?_); rintro e w51 ⟨rfl, hb⟩; have n0_ := Aside0.mk (Kd.R_below (by (with_reducible repeat (first | apply Kd.R_alloc | apply Kd.R_drewN | apply Kd.R_drew)); exact HO_24.out) hb); have n1_ := Aside0.mk (below_step (by repeat (first | (with_reducible first | exact HB.out | apply below_alloc | apply pw_below_drewN | apply below_drew1) | exact HB.out)) hb); clear HO_24; clear HB; have HO_24 := n0_; have HB := n1_; clear n0_ n1_; (try clear hb); (try clear hb2); (try clear hk); (try clear hi)))
                          go_ret
                          exact ⟨by first | rfl | (simp [errW_none, errW_some] <;> rfl) | (simp [*, errW_none, errW_some] <;> rfl), by repeat (first | (with_reducible first | exact HB.out | apply below_alloc | apply pw_below_drewN | apply below_drew1) | exact HB.out)⟩
                  · rw [if_neg c18] at H
                    have c18b0 : (t311.toList == t313.toList) = false := beq_eq_false_iff_ne.mpr c18
                    have c18b1 : (t311.toList != t313.toList) = true := bne_iff_ne.mpr c18
                    obtain rfl := Option.some.inj H
                    have p310 : 0 ≤ (x26_2 : Int) := of_decide_eq_true (by first | (with_reducible assumption) | assumption)
                    have q310 : x26_2 < (y306.length : Int) := of_decide_eq_true (by first | (with_reducible assumption) | assumption)
                    obtain ⟨ad310, e310, hx310_0⟩ := Kd.at_string (Kd.R_reads' HO_24.out).2.2 x26_2 p310 q310
                    cases e310
                    replace p310 := eq_true p310
                    replace q310 := eq_true q310
                    go_wp2_with (first | ((with_reducible refine gate_callee (f := 19) rfl ?_); refine goesL_ (some 32) rfl rfl Try.func19 (by kernel_rfl) rfl #[.string (rdOf ByteArray.empty y306 x26_2)] rfl (by (try simp only [List.map_toArray, List.map_cons, List.map_nil]); first | done | rfl | (simp only [List.length_drop, List.length_take]; rfl)) ?_; (with_reducible refine (hash_Unhex.calls k2 (rdOf ByteArray.empty y306 x26_2) t311 t312 _ A16.out).mono ?_); rintro e w52 ⟨rfl, hb⟩; refine ⟨_, rfl, ?_⟩; have n0_ := Aside0.mk (Kd.R_below (by (with_reducible repeat (first | apply Kd.R_alloc | apply Kd.R_drewN | apply Kd.R_drew)); exact HO_24.out) hb); have n1_ := Aside0.mk (below_step (by repeat (first | (with_reducible first | exact HB.out | apply below_alloc | apply pw_below_drewN | apply below_drew1) | exact HB.out)) hb); clear HO_24; clear HB; have HO_24 := n0_; have HB := n1_; clear n0_ n1_; (try clear hb); (try clear hb2); (try clear hk); (try clear hi)) | ((with_reducible refine gate_callee (f := 20) rfl ?_); refine goesL_ (some 37) rfl rfl Try.func20 (by kernel_rfl) rfl #[.string (rdOf ByteArray.empty y306 x26_2)] rfl (by (try simp only [List.map_toArray, List.map_cons, List.map_nil]); first | done | rfl | (simp only [List.length_drop, List.length_take]; rfl)) ?_; (with_reducible refine (certpathref01_Unhex.calls k2 (rdOf ByteArray.empty y306 x26_2) t313 t314 _ A17.out).mono ?_); rintro e w53 ⟨rfl, hb⟩; refine ⟨_, rfl, ?_⟩; have n0_ := Aside0.mk (Kd.R_below (by (with_reducible repeat (first | apply Kd.R_alloc | apply Kd.R_drewN | apply Kd.R_drew)); exact HO_24.out) hb); have n1_ := Aside0.mk (below_step (by repeat (first | (with_reducible first | exact HB.out | apply below_alloc | apply pw_below_drewN | apply below_drew1) | exact HB.out)) hb); clear HO_24; clear HB; have HO_24 := n0_; have HB := n1_; clear n0_ n1_; (try clear hb); (try clear hb2); (try clear hk); (try clear hi)))
                    go_ret
                    exact ⟨by first | rfl | (simp [errW_none, errW_some] <;> rfl) | (simp [*, errW_none, errW_some] <;> rfl), by repeat (first | (with_reducible first | exact HB.out | apply below_alloc | apply pw_below_drewN | apply below_drew1) | exact HB.out)⟩
                · rw [if_neg c15] at H
                  exact absurd H (by simp)
              · rw [if_neg c14] at H
                exact absurd H (by simp)
            · rw [if_neg c13] at H
              have c13b0 : decide (x26_2 < (y306.length : Int)) = false := decide_eq_false c13
              clear c13
              replace H := Option.bind_eq_some_iff.mp H
              obtain ⟨t309, A540, H⟩ := H
              replace H : (some t309) = some r := H
              have A54 := Aside0.mk A540
              clear A540
              obtain rfl := Option.some.inj H
              go_wp2_with (first | ((with_reducible refine gate_callee (f := 9) rfl ?_); refine goesL_ (some 65) rfl rfl Try.func9 (by kernel_rfl) rfl #[] rfl (by (try simp only [List.map_toArray, List.map_cons, List.map_nil]); first | done | rfl | (simp only [List.length_drop, List.length_take]; rfl)) ?_; (with_reducible refine (certpathlaw01_awake.calls k2  t309 _ A54.out).mono ?_); rintro e w55 ⟨rfl, hb⟩; refine ⟨_, rfl, ?_⟩; have n0_ := Aside0.mk (Kd.R_below (by (with_reducible repeat (first | apply Kd.R_alloc | apply Kd.R_drewN | apply Kd.R_drew)); exact HO_24.out) hb); have n1_ := Aside0.mk (below_step (by repeat (first | (with_reducible first | exact HB.out | apply below_alloc | apply pw_below_drewN | apply below_drew1) | exact HB.out)) hb); clear HO_24; clear HB; have HO_24 := n0_; have HB := n1_; clear n0_ n1_; (try clear hb); (try clear hb2); (try clear hk); (try clear hi)))
              go_ret
              exact ⟨by first | rfl | (simp [errW_none, errW_some] <;> rfl) | (simp [*, errW_none, errW_some] <;> rfl), by repeat (first | (with_reducible first | exact HB.out | apply below_alloc | apply pw_below_drewN | apply below_drew1) | exact HB.out)⟩

/-- THE ONE PURE STATEMENT of certpathlaw01_HashHex: yours. -/
def certpathlaw01_HashHex.Pure : Prop := ∀ (a0 : ByteArray) (a1 : ByteArray), a0.size ≤ 140737488351232 → a1.size ≤ 140737488351232 → ∃ k, certpathlaw01_HashHex.f k a0 a1 = some true
theorem certpathlaw01_HashHex.walk (P : certpathlaw01_HashHex.Pure) (a0 : ByteArray) (a1 : ByteArray) (w : World) (w0 : a0.size ≤ 140737488351232) (w1 : a1.size ≤ 140737488351232) :
    Calls Try.prog 7 #[.string a0, .string a1] w fun e w' => e = .returned (.bool true) ∧ Below w.heap.size w w' := by
  obtain ⟨k, h⟩ := P a0 a1 w0 w1
  refine (certpathlaw01_HashHex.calls k a0 a1 true w h).mono ?_
  rintro e w' ⟨rfl, hd⟩
  exact ⟨rfl, hd⟩

end Go.Proofs.Ytpiakeejfggocab.Q
