-- Written by a program of this session (wip/prn.py) out of the translation, for the seat Ytpiakeejfggocaa. Not trusted: Lean checks it.
import Derived.Test.YtpiakeejfggocaaQx0
import Derived.Test.YtpiakeejfggocaaQx1
import Derived.Test.YtpiakeejfggocaaQx2
import Derived.Test.YtpiakeejfggocaaQx3
namespace Go.Proofs.Ytpiakeejfggocaa.Q
open Go.RowKit Go.Proofs.YtpiakeejfggocaaW.PrintWords Go.Proofs.YtpiakeejfggocaaW.PrintLast Go.Proofs.YtpiakeejfggocaaW.PrintMore
attribute [local go_sem] max2_int min2_int max_two min_two max_three min_three max_four min_four   -- for this text's walks alone
set_option linter.unusedVariables false
set_option linter.unusedSimpArgs false

/-! ### certpathlaw03_PrimInteger: function 3 -/
def certpathlaw03_PrimInteger.l0 : Nat → List ByteArray → Int → Int → Option (Bool)
  | 0, _, _, _ => none
  | k + 1, x39, x40, x41 => if x41 < x40 then (if 0 ≤ x41 then (if x41 < (x39.length : Int) then ((prim_Integer.f k (rdOf ByteArray.empty x39 x41)).bind fun bt124 => ((certpathref01_Integer.f k (rdOf ByteArray.empty x39 x41)).bind fun bt126 => (if bt124.1 = bt126.1 then (if bt124.2 = bt126.2 then (certpathlaw03_PrimInteger.l0 k x39 x40 (wrap64 (x41 + 1))) else (some false)) else (some false)))) else (none)) else (none)) else ((certpathlaw03_awake.f k).bind fun t122 => (some t122))
def certpathlaw03_PrimInteger.f (k : Nat) (a0 : ByteArray) (a1 : Int) (a2 : Int) : Option (Bool) := if (a0.size : Int) > 20 then ((certpathlaw03_awake.f k).bind fun t114 => (some t114)) else ((some (([(⟨#[]⟩ : ByteArray), (⟨#[0]⟩ : ByteArray), (⟨#[255]⟩ : ByteArray), (⟨#[0, 0]⟩ : ByteArray), (⟨#[255, 255]⟩ : ByteArray), (⟨#[128]⟩ : ByteArray), (⟨#[127]⟩ : ByteArray)] : List ByteArray) : List ByteArray)).bind fun y115 => (if 0 ≤ (Int.tmod a1 7) then (if (Int.tmod a1 7) < (y115.length : Int) then (if (rdOf ByteArray.empty y115 (Int.tmod a1 7)).size + a0.size ≤ 9223372036854775807 then (if 0 ≤ (mn (((rdOf ByteArray.empty y115 (Int.tmod a1 7)).size : Int) + (a0.size : Int)) (wrap64 (Int.tmod a2 11))) then (if (mn (((rdOf ByteArray.empty y115 (Int.tmod a1 7)).size : Int) + (a0.size : Int)) (wrap64 (Int.tmod a2 11))) ≤ (((rdOf ByteArray.empty y115 (Int.tmod a1 7)).size : Int) + (a0.size : Int)) then ((some (([a0, (rdOf ByteArray.empty y115 (Int.tmod a1 7)) ++ a0, ((rdOf ByteArray.empty y115 (Int.tmod a1 7)) ++ a0).extract 0 ((mn (((rdOf ByteArray.empty y115 (Int.tmod a1 7)).size : Int) + (a0.size : Int)) (wrap64 (Int.tmod a2 11))) : Int).toNat] : List ByteArray) : List ByteArray)).bind fun y119 => (certpathlaw03_PrimInteger.l0 k y119 (y119.length : Int) 0)) else (none)) else (none)) else (none)) else (none)) else (none)))
theorem certpathlaw03_PrimInteger.mono_l : ∀ k, (∀ y0 y1 y2, LeO (certpathlaw03_PrimInteger.l0 k y0 y1 y2) (certpathlaw03_PrimInteger.l0 (k + 1) y0 y1 y2))
  | 0 => fun _ _ _ r h => by simp [certpathlaw03_PrimInteger.l0] at h
  | k + 1 => by
    have ih0 := certpathlaw03_PrimInteger.mono_l k
    · intro y0 y1 y2
      unfold certpathlaw03_PrimInteger.l0
      repeat' first
      | (with_reducible exact ih0 _ _ _)
      | (with_reducible exact certpathlaw03_awake.mono _)
      | (with_reducible exact certpathref01_Integer.mono _ _)
      | (with_reducible exact prim_Integer.mono _ _)
      | (with_reducible exact LeO.refl _)
      | (with_reducible exact LeO.none _)
      | (with_reducible refine LeO.ite ?_ ?_)
      | (with_reducible refine LeO.bind ?_ (fun _ => ?_))
      | exact ih0 _ _ _
      | exact certpathlaw03_awake.mono _
      | exact certpathref01_Integer.mono _ _
      | exact prim_Integer.mono _ _
      | exact LeO.none _
      | refine LeO.ite ?_ ?_
      | refine LeO.bind ?_ (fun _ => ?_)
theorem certpathlaw03_PrimInteger.mono : ∀ a0 a1 a2 k, LeO (certpathlaw03_PrimInteger.f k a0 a1 a2) (certpathlaw03_PrimInteger.f (k + 1) a0 a1 a2) := by
  intro a0 a1 a2 k
  have ih0 := certpathlaw03_PrimInteger.mono_l k
  unfold certpathlaw03_PrimInteger.f
  repeat' first
      | (with_reducible exact ih0 _ _ _)
      | (with_reducible exact certpathlaw03_awake.mono _)
      | (with_reducible exact certpathref01_Integer.mono _ _)
      | (with_reducible exact prim_Integer.mono _ _)
      | (with_reducible exact LeO.refl _)
      | (with_reducible exact LeO.none _)
      | (with_reducible refine LeO.ite ?_ ?_)
      | (with_reducible refine LeO.bind ?_ (fun _ => ?_))
      | exact ih0 _ _ _
      | exact certpathlaw03_awake.mono _
      | exact certpathref01_Integer.mono _ _
      | exact prim_Integer.mono _ _
      | exact LeO.none _
      | refine LeO.ite ?_ ?_
      | refine LeO.bind ?_ (fun _ => ?_)
set_option maxHeartbeats 8000000 in
set_option maxRecDepth 100000 in
theorem certpathlaw03_PrimInteger.calls (k : Nat) (a0 : ByteArray) (a1 : Int) (a2 : Int) (r : Bool) (w : World) (h : certpathlaw03_PrimInteger.f k a0 a1 a2 = some r) :
    Calls Try.prog 3 #[.string a0, .int .u8 a1, .int .u8 a2] w fun e w' => e = .returned (.bool r) ∧ Below w.heap.size w w' := by
  have HB := Aside0.mk (Below.refl w.heap.size w)
  have H : (if (a0.size : Int) > 20 then ((certpathlaw03_awake.f k).bind fun t114 => (some t114)) else ((some (([(⟨#[]⟩ : ByteArray), (⟨#[0]⟩ : ByteArray), (⟨#[255]⟩ : ByteArray), (⟨#[0, 0]⟩ : ByteArray), (⟨#[255, 255]⟩ : ByteArray), (⟨#[128]⟩ : ByteArray), (⟨#[127]⟩ : ByteArray)] : List ByteArray) : List ByteArray)).bind fun y115 => (if 0 ≤ (Int.tmod a1 7) then (if (Int.tmod a1 7) < (y115.length : Int) then (if (rdOf ByteArray.empty y115 (Int.tmod a1 7)).size + a0.size ≤ 9223372036854775807 then (if 0 ≤ (mn (((rdOf ByteArray.empty y115 (Int.tmod a1 7)).size : Int) + (a0.size : Int)) (wrap64 (Int.tmod a2 11))) then (if (mn (((rdOf ByteArray.empty y115 (Int.tmod a1 7)).size : Int) + (a0.size : Int)) (wrap64 (Int.tmod a2 11))) ≤ (((rdOf ByteArray.empty y115 (Int.tmod a1 7)).size : Int) + (a0.size : Int)) then ((some (([a0, (rdOf ByteArray.empty y115 (Int.tmod a1 7)) ++ a0, ((rdOf ByteArray.empty y115 (Int.tmod a1 7)) ++ a0).extract 0 ((mn (((rdOf ByteArray.empty y115 (Int.tmod a1 7)).size : Int) + (a0.size : Int)) (wrap64 (Int.tmod a2 11))) : Int).toNat] : List ByteArray) : List ByteArray)).bind fun y119 => (certpathlaw03_PrimInteger.l0 k y119 (y119.length : Int) 0)) else (none)) else (none)) else (none)) else (none)) else (none)))) = some r := h
  clear h
  by_cases c4 : (a0.size : Int) > 20
  · rw [if_pos c4] at H
    have c4b0 : decide (20 < (a0.size : Int)) = true := decide_eq_true c4
    have c4b1 : decide (20 < a0.size) = true := decide_eq_true (by omega)
    clear c4
    replace H := Option.bind_eq_some_iff.mp H
    obtain ⟨t114, A50, H⟩ := H
    replace H : (some t114) = some r := H
    have A5 := Aside0.mk A50
    clear A50
    obtain rfl := Option.some.inj H
    go_enter Try.func3, Try.ntmps3
    go_wp2_with (first | ((with_reducible refine gate_callee (f := 9) rfl ?_); refine goesL_ (some 17) rfl rfl Try.func9 (by kernel_rfl) rfl #[] rfl (by (try simp only [List.map_toArray, List.map_cons, List.map_nil]); first | done | rfl | (simp only [List.length_drop, List.length_take]; rfl)) ?_; (with_reducible refine (certpathlaw03_awake.calls k  t114 _ A5.out).mono ?_); rintro e w6 ⟨rfl, hb⟩; refine ⟨_, rfl, ?_⟩; have n0_ := Aside0.mk (below_step (by repeat (first | (with_reducible first | exact HB.out | apply below_alloc | apply pw_below_drewN | apply below_drew1) | exact HB.out)) hb); clear HB; have HB := n0_; clear n0_; (try clear hb); (try clear hb2); (try clear hk); (try clear hi)))
    go_ret
    exact ⟨by first | rfl | (simp [errW_none, errW_some] <;> rfl) | (simp [*, errW_none, errW_some] <;> rfl), by repeat (first | (with_reducible first | exact HB.out | apply below_alloc | apply pw_below_drewN | apply below_drew1) | exact HB.out)⟩
  · rw [if_neg c4] at H
    have c4b0 : decide (20 < (a0.size : Int)) = false := decide_eq_false c4
    have c4b1 : decide (20 < a0.size) = false := decide_eq_false (by omega)
    clear c4
    obtain ⟨y115, hy115⟩ : ∃ y_ : List ByteArray, y_ = (([(⟨#[]⟩ : ByteArray), (⟨#[0]⟩ : ByteArray), (⟨#[255]⟩ : ByteArray), (⟨#[0, 0]⟩ : ByteArray), (⟨#[255, 255]⟩ : ByteArray), (⟨#[128]⟩ : ByteArray), (⟨#[127]⟩ : ByteArray)] : List ByteArray)) := ⟨_, rfl⟩
    replace H : (if 0 ≤ (Int.tmod a1 7) then (if (Int.tmod a1 7) < (y115.length : Int) then (if (rdOf ByteArray.empty y115 (Int.tmod a1 7)).size + a0.size ≤ 9223372036854775807 then (if 0 ≤ (mn (((rdOf ByteArray.empty y115 (Int.tmod a1 7)).size : Int) + (a0.size : Int)) (wrap64 (Int.tmod a2 11))) then (if (mn (((rdOf ByteArray.empty y115 (Int.tmod a1 7)).size : Int) + (a0.size : Int)) (wrap64 (Int.tmod a2 11))) ≤ (((rdOf ByteArray.empty y115 (Int.tmod a1 7)).size : Int) + (a0.size : Int)) then ((some (([a0, (rdOf ByteArray.empty y115 (Int.tmod a1 7)) ++ a0, ((rdOf ByteArray.empty y115 (Int.tmod a1 7)) ++ a0).extract 0 ((mn (((rdOf ByteArray.empty y115 (Int.tmod a1 7)).size : Int) + (a0.size : Int)) (wrap64 (Int.tmod a2 11))) : Int).toNat] : List ByteArray) : List ByteArray)).bind fun y119 => (certpathlaw03_PrimInteger.l0 k y119 (y119.length : Int) 0)) else (none)) else (none)) else (none)) else (none)) else (none)) = some r := by first | (rw [hy115]; with_reducible exact H) | (have H2_ := (Option.bind_some _ _).symm.trans H; rw [hy115]; with_reducible exact H2_) | (have H2_ := (Option.bind_some _ _).symm.trans H; with_reducible exact H2_) | with_reducible exact H | (rw [hy115]; exact H) | exact H
    have Ny115 := Aside0.mk hy115
    clear hy115
    obtain ⟨ji7, hji7⟩ : ∃ j_ : Int, (Int.tmod a1 7) = j_ := ⟨_, rfl⟩
    replace H : (if 0 ≤ (ji7) then (if (ji7) < (y115.length : Int) then (if (rdOf ByteArray.empty y115 (ji7)).size + a0.size ≤ 9223372036854775807 then (if 0 ≤ (mn (((rdOf ByteArray.empty y115 (ji7)).size : Int) + (a0.size : Int)) (wrap64 (Int.tmod a2 11))) then (if (mn (((rdOf ByteArray.empty y115 (ji7)).size : Int) + (a0.size : Int)) (wrap64 (Int.tmod a2 11))) ≤ (((rdOf ByteArray.empty y115 (ji7)).size : Int) + (a0.size : Int)) then ((some (([a0, (rdOf ByteArray.empty y115 (ji7)) ++ a0, ((rdOf ByteArray.empty y115 (ji7)) ++ a0).extract 0 ((mn (((rdOf ByteArray.empty y115 (ji7)).size : Int) + (a0.size : Int)) (wrap64 (Int.tmod a2 11))) : Int).toNat] : List ByteArray) : List ByteArray)).bind fun y119 => (certpathlaw03_PrimInteger.l0 k y119 (y119.length : Int) 0)) else (none)) else (none)) else (none)) else (none)) else (none)) = some r := by first | (rw [hji7] at H; exact H) | (simp only [hji7] at H ⊢; exact H)
    by_cases c8 : 0 ≤ (ji7)
    · rw [if_pos c8] at H
      have c8b0 : decide (0 ≤ (ji7)) = true := decide_eq_true c8
      clear c8
      by_cases c9 : (ji7) < (y115.length : Int)
      · rw [if_pos c9] at H
        have c9b0 : decide ((ji7) < (y115.length : Int)) = true := decide_eq_true c9
        clear c9
        by_cases c10 : (rdOf ByteArray.empty y115 (ji7)).size + a0.size ≤ 9223372036854775807
        · rw [if_pos c10] at H
          have c10b0 := eq_true c10
          have c10b1 : decide ((rdOf ByteArray.empty y115 (ji7)).size + a0.size ≤ 9223372036854775807) = true := decide_eq_true c10
          try have c10b2 : (9223372036854775807 < (rdOf ByteArray.empty y115 (ji7)).size + a0.size) = False := eq_false (Nat.not_lt.2 c10)
          obtain ⟨ji11, hji11⟩ : ∃ j_ : Int, (mn (((rdOf ByteArray.empty y115 (ji7)).size : Int) + (a0.size : Int)) (wrap64 (Int.tmod a2 11))) = j_ := ⟨_, rfl⟩
          replace H : (if 0 ≤ (ji11) then (if (ji11) ≤ (((rdOf ByteArray.empty y115 (ji7)).size : Int) + (a0.size : Int)) then ((some (([a0, (rdOf ByteArray.empty y115 (ji7)) ++ a0, ((rdOf ByteArray.empty y115 (ji7)) ++ a0).extract 0 ((ji11) : Int).toNat] : List ByteArray) : List ByteArray)).bind fun y119 => (certpathlaw03_PrimInteger.l0 k y119 (y119.length : Int) 0)) else (none)) else (none)) = some r := by first | (rw [hji11] at H; exact H) | (simp only [hji11] at H ⊢; exact H)
          have hji11_ : (if (wrap64 (Int.tmod a2 11)) < (((rdOf ByteArray.empty y115 (ji7)).size : Int) + (a0.size : Int)) then (wrap64 (Int.tmod a2 11)) else (((rdOf ByteArray.empty y115 (ji7)).size : Int) + (a0.size : Int))) = ji11 := hji11
          by_cases c12 : 0 ≤ (ji11)
          · rw [if_pos c12] at H
            have c12b0 := eq_true c12
            have c12b1 : decide (0 ≤ (ji11)) = true := decide_eq_true c12
            clear c12
            by_cases c13 : (ji11) ≤ (((rdOf ByteArray.empty y115 (ji7)).size : Int) + (a0.size : Int))
            · rw [if_pos c13] at H
              have c13b0 := eq_true c13
              have c13b1 : decide ((ji11) ≤ (((rdOf ByteArray.empty y115 (ji7)).size : Int) + (a0.size : Int))) = true := decide_eq_true c13
              obtain ⟨y119, hy119⟩ : ∃ y_ : List ByteArray, y_ = (([a0, (rdOf ByteArray.empty y115 (ji7)) ++ a0, ((rdOf ByteArray.empty y115 (ji7)) ++ a0).extract 0 ((ji11) : Int).toNat] : List ByteArray)) := ⟨_, rfl⟩
              replace H : (certpathlaw03_PrimInteger.l0 k y119 (y119.length : Int) 0) = some r := by first | (rw [hy119]; with_reducible exact H) | (have H2_ := (Option.bind_some _ _).symm.trans H; rw [hy119]; with_reducible exact H2_) | (have H2_ := (Option.bind_some _ _).symm.trans H; with_reducible exact H2_) | with_reducible exact H | (rw [hy119]; exact H) | exact H
              have Ny119 := Aside0.mk hy119
              clear hy119
              have H' := Aside0.mk H
              clear H
              go_enter Try.func3, Try.ntmps3
              go_wp2_with (first | ((with_reducible refine gate_dst (N := 18) rfl ?_); refine Kd.R_lit Kd.string _ 9 ?hg (N := 18) ?hd (xs := ([(⟨#[]⟩ : ByteArray), (⟨#[0]⟩ : ByteArray), (⟨#[255]⟩ : ByteArray), (⟨#[0, 0]⟩ : ByteArray), (⟨#[255, 255]⟩ : ByteArray), (⟨#[128]⟩ : ByteArray), (⟨#[127]⟩ : ByteArray)] : List ByteArray)) (inner := [.string (⟨#[]⟩ : ByteArray), .string (⟨#[0]⟩ : ByteArray), .string (⟨#[255]⟩ : ByteArray), .string (⟨#[0, 0]⟩ : ByteArray), .string (⟨#[255, 255]⟩ : ByteArray), .string (⟨#[128]⟩ : ByteArray), .string (⟨#[127]⟩ : ByteArray)]) (ok := fun _ => True) (okp := fun _ => True) ?hr ?hp (fun _ hk => hk) trivial (Below.refl _ _) (Nat.le_refl _) (by simp) ?_; (case hd => rfl); (case hg => rfl); (case hr => first | (go_simp; done) | (go_simp; rfl)); (case hp => exact (Reps.one (show Kd.M Kd.string _ _ _ (⟨#[]⟩ : ByteArray) [.string (⟨#[]⟩ : ByteArray)] from rfl) (Reps.one (show Kd.M Kd.string _ _ _ (⟨#[0]⟩ : ByteArray) [.string (⟨#[0]⟩ : ByteArray)] from rfl) (Reps.one (show Kd.M Kd.string _ _ _ (⟨#[255]⟩ : ByteArray) [.string (⟨#[255]⟩ : ByteArray)] from rfl) (Reps.one (show Kd.M Kd.string _ _ _ (⟨#[0, 0]⟩ : ByteArray) [.string (⟨#[0, 0]⟩ : ByteArray)] from rfl) (Reps.one (show Kd.M Kd.string _ _ _ (⟨#[255, 255]⟩ : ByteArray) [.string (⟨#[255, 255]⟩ : ByteArray)] from rfl) (Reps.one (show Kd.M Kd.string _ _ _ (⟨#[128]⟩ : ByteArray) [.string (⟨#[128]⟩ : ByteArray)] from rfl) (Reps.one (show Kd.M Kd.string _ _ _ (⟨#[127]⟩ : ByteArray) [.string (⟨#[127]⟩ : ByteArray)] from rfl) (Reps.none _ _))))))))); intro v116 w14 ho15 hb hg_ hnew_; clear hg_ hnew_; (first | rw [← Ny115.out] at ho15 | (simp only [Int.reduceToNat] at ho15; rw [← Ny115.out] at ho15)); have n0_ := Aside0.mk (Kd.R_lower ho15 (below_size (by repeat (first | (with_reducible first | exact HB.out | apply below_alloc | apply pw_below_drewN | apply below_drew1) | exact HB.out)))); have n1_ := Aside0.mk (below_step (by repeat (first | (with_reducible first | exact HB.out | apply below_alloc | apply pw_below_drewN | apply below_drew1) | exact HB.out)) hb); clear HB; have HO117 := n0_; have HB := n1_; clear n0_ n1_; clear hb ho15; obtain ⟨Ao16, co16, eo16⟩ := Kd.R_slice HO117.out; subst eo16; have p118 : 0 ≤ ((ji7) : Int) := of_decide_eq_true (by first | (with_reducible assumption) | assumption); have q118 : (ji7) < (y115.length : Int) := of_decide_eq_true (by first | (with_reducible assumption) | assumption); obtain ⟨ad118, e118, hx118_0⟩ := Kd.at_string (Kd.R_reads' HO117.out).2.2 (ji7) p118 q118; cases e118; replace p118 := eq_true p118; replace q118 := eq_true q118) | ((with_reducible refine gate_dst (N := 39) rfl ?_); refine Kd.R_lit Kd.string _ 9 ?hg (N := 39) ?hd (xs := ([a0, (rdOf ByteArray.empty y115 (ji7)) ++ a0, ((rdOf ByteArray.empty y115 (ji7)) ++ a0).extract 0 ((ji11) : Int).toNat] : List ByteArray)) (inner := [.string a0, .string ((rdOf ByteArray.empty y115 (ji7)) ++ a0), .string (((rdOf ByteArray.empty y115 (ji7)) ++ a0).extract 0 ((ji11) : Int).toNat)]) (ok := fun _ => True) (okp := fun _ => True) ?hr ?hp (fun _ hk => hk) trivial (Below.refl _ _) (Nat.le_refl _) (by simp) ?_; (case hd => rfl); (case hg => rfl); (case hr => first | (go_simp; done) | (go_simp; rfl)); (case hp => exact (Reps.one (show Kd.M Kd.string _ _ _ a0 [.string a0] from rfl) (Reps.one (show Kd.M Kd.string _ _ _ ((rdOf ByteArray.empty y115 (ji7)) ++ a0) [.string ((rdOf ByteArray.empty y115 (ji7)) ++ a0)] from rfl) (Reps.one (show Kd.M Kd.string _ _ _ (((rdOf ByteArray.empty y115 (ji7)) ++ a0).extract 0 ((ji11) : Int).toNat) [.string (((rdOf ByteArray.empty y115 (ji7)) ++ a0).extract 0 ((ji11) : Int).toNat)] from rfl) (Reps.none _ _))))); intro v120 w17 ho18 hb hg_ hnew_; clear hg_ hnew_; (first | rw [← Ny119.out] at ho18 | (simp only [Int.reduceToNat] at ho18; rw [← Ny119.out] at ho18)); have n0_ := Aside0.mk (Kd.R_elder' (by (with_reducible repeat (first | apply Kd.R_alloc | apply Kd.R_drewN | apply Kd.R_drew)); exact HO117.out) (Kd.R_base ho18) hb); have n1_ := Aside0.mk (Kd.R_lower (Kd.R_new' ho18 (Kd.R_lt (by (with_reducible repeat (first | apply Kd.R_alloc | apply Kd.R_drewN | apply Kd.R_drew)); exact HO117.out))) (below_size (by repeat (first | (with_reducible first | exact HB.out | apply below_alloc | apply pw_below_drewN | apply below_drew1) | exact HB.out)))); have n2_ := Aside0.mk (below_step (by repeat (first | (with_reducible first | exact HB.out | apply below_alloc | apply pw_below_drewN | apply below_drew1) | exact HB.out)) hb); clear HO117; clear HB; have HO117 := n0_; have HO121 := n1_; have HB := n2_; clear n0_ n1_ n2_; clear hb ho18; obtain ⟨Ao19, co19, eo19⟩ := Kd.R_slice HO121.out; subst eo19))
              go_loopg [41] k (fun kq v41 w' => ∃ (x41_1 : Int), v41 = .int .i64 x41_1 ∧ Aside0 (certpathlaw03_PrimInteger.l0 kq y119 (y119.length : Int) x41_1 = some r) ∧ Aside0 (kq ≤ k) ∧ Aside0 (Kd.R Kd.string 9 w' w.heap.size (fun _ => True) (.slice Ao19 y119.length co19) y119) ∧ Aside0 (Below w.heap.size w w'))
              case atStart => exact ⟨(0), (by first | rfl | (simp; done) | (simp [*]; done)), H', ⟨Nat.le_refl _⟩, ⟨by (with_reducible repeat (first | apply Kd.R_alloc | apply Kd.R_drewN | apply Kd.R_drew)); exact Kd.R_mono HO121.out (fun _ hk => trivial)⟩, ⟨by repeat (first | (with_reducible first | exact HB.out | apply below_alloc | apply pw_below_drewN | apply below_drew1) | exact HB.out)⟩⟩
              case round =>
                clear H'
                try clear c1
                try clear p1
                try clear q1
                try clear hx1
                try clear p2
                try clear c3
                try clear c4
                try clear c4b0
                try clear c4b1
                try clear p6
                try clear c8
                try clear c8b0
                try clear c9
                try clear c9b0
                try clear c10
                try clear c10b0
                try clear c10b1
                try clear c10b2
                try clear p11
                try clear q11
                try clear hx11
                try clear c12
                try clear c12b0
                try clear c12b1
                try clear c13
                try clear c13b0
                try clear c13b1
                try clear hx118_0
                try clear p118
                try clear q118
                obtain ⟨x41_1, rfl, HA, HK1, HO_39, HB⟩ := hrel
                cases gk with
                | zero => exact absurd HA.out (by simp [certpathlaw03_PrimInteger.l0])
                | succ k1 =>
                  have H := HA.out
                  clear HA
                  simp only [certpathlaw03_PrimInteger.l0] at H
                  by_cases c20 : x41_1 < (y119.length : Int)
                  · rw [if_pos c20] at H
                    have c20b0 : decide (x41_1 < (y119.length : Int)) = true := decide_eq_true c20
                    clear c20
                    by_cases c21 : 0 ≤ x41_1
                    · rw [if_pos c21] at H
                      have c21b0 : decide (0 ≤ x41_1) = true := decide_eq_true c21
                      clear c21
                      by_cases c22 : x41_1 < (y119.length : Int)
                      · rw [if_pos c22] at H
                        have c22b0 : decide (x41_1 < (y119.length : Int)) = true := decide_eq_true c22
                        clear c22
                        replace H := Option.bind_eq_some_iff.mp H
                        obtain ⟨⟨t124, t125⟩, A230, H⟩ := H
                        replace H : ((certpathref01_Integer.f k1 (rdOf ByteArray.empty y119 x41_1)).bind fun bt126 => (if t124 = bt126.1 then (if t125 = bt126.2 then (certpathlaw03_PrimInteger.l0 k1 y119 (y119.length : Int) (wrap64 (x41_1 + 1))) else (some false)) else (some false))) = some r := H
                        have A23 := Aside0.mk A230
                        clear A230
                        replace H := Option.bind_eq_some_iff.mp H
                        obtain ⟨⟨t126, t127⟩, A240, H⟩ := H
                        replace H : (if t124 = t126 then (if t125 = t127 then (certpathlaw03_PrimInteger.l0 k1 y119 (y119.length : Int) (wrap64 (x41_1 + 1))) else (some false)) else (some false)) = some r := H
                        have A24 := Aside0.mk A240
                        clear A240
                        by_cases c25 : t124 = t126
                        · rw [if_pos c25] at H
                          have c25b0 : (t124 == t126) = true := beq_iff_eq.mpr c25
                          have c25b1 : (t124 != t126) = false := bne_eq_false_iff_eq.mpr c25
                          clear c25
                          by_cases c26 : t125 = t127
                          · rw [if_pos c26] at H
                            have c26b0 : (t125 == t127) = true := beq_iff_eq.mpr c26
                            have c26b1 : (t125 != t127) = false := bne_eq_false_iff_eq.mpr c26
                            clear c26
                            have H' := Aside0.mk H
                            clear H
                            have p123 : 0 ≤ (x41_1 : Int) := of_decide_eq_true (by first | (with_reducible assumption) | assumption)
                            have q123 : x41_1 < (y119.length : Int) := of_decide_eq_true (by first | (with_reducible assumption) | assumption)
                            obtain ⟨ad123, e123, hx123_0⟩ := Kd.at_string (Kd.R_reads' HO_39.out).2.2 x41_1 p123 q123
                            cases e123
                            replace p123 := eq_true p123
                            replace q123 := eq_true q123
                            go_wp2_with (first | ((with_reducible refine gate_callee (f := 10) rfl ?_); refine goesL_ (some 47) rfl rfl Try.func10 (by kernel_rfl) rfl #[.string (rdOf ByteArray.empty y119 x41_1)] rfl (by (try simp only [List.map_toArray, List.map_cons, List.map_nil]); first | done | rfl | (simp only [List.length_drop, List.length_take]; rfl)) ?_; (with_reducible refine (prim_Integer.calls k1 (rdOf ByteArray.empty y119 x41_1) t124 t125 _ A23.out).mono ?_); rintro e w' ⟨rfl, ⟨nd, rfl⟩⟩; refine ⟨_, rfl, ?_⟩) | ((with_reducible refine gate_callee (f := 11) rfl ?_); refine goesL_ (some 52) rfl rfl Try.func11 (by kernel_rfl) rfl #[.string (rdOf ByteArray.empty y119 x41_1)] rfl (by (try simp only [List.map_toArray, List.map_cons, List.map_nil]); first | done | rfl | (simp only [List.length_drop, List.length_take]; rfl)) ?_; (with_reducible refine (certpathref01_Integer.calls k1 (rdOf ByteArray.empty y119 x41_1) t126 t127 _ A24.out).mono ?_); rintro e w' ⟨rfl, ⟨nd, rfl⟩⟩; refine ⟨_, rfl, ?_⟩))
                            go_roundg k1
                            case measure => have := HK1.out; omega
                            case rel => exact ⟨(wrap64 (x41_1 + 1)), (by first | rfl | (simp; done) | (simp [*]; done)), H', ⟨by have := HK1.out; omega⟩, ⟨by (with_reducible repeat (first | apply Kd.R_alloc | apply Kd.R_drewN | apply Kd.R_drew)); exact HO_39.out⟩, ⟨by repeat (first | (with_reducible first | exact HB.out | apply below_alloc | apply pw_below_drewN | apply below_drew1) | exact HB.out)⟩⟩
                          · rw [if_neg c26] at H
                            have c26b0 : (t125 == t127) = false := beq_eq_false_iff_ne.mpr c26
                            have c26b1 : (t125 != t127) = true := bne_iff_ne.mpr c26
                            obtain rfl := Option.some.inj H
                            have p123 : 0 ≤ (x41_1 : Int) := of_decide_eq_true (by first | (with_reducible assumption) | assumption)
                            have q123 : x41_1 < (y119.length : Int) := of_decide_eq_true (by first | (with_reducible assumption) | assumption)
                            obtain ⟨ad123, e123, hx123_0⟩ := Kd.at_string (Kd.R_reads' HO_39.out).2.2 x41_1 p123 q123
                            cases e123
                            replace p123 := eq_true p123
                            replace q123 := eq_true q123
                            go_wp2_with (first | ((with_reducible refine gate_callee (f := 10) rfl ?_); refine goesL_ (some 47) rfl rfl Try.func10 (by kernel_rfl) rfl #[.string (rdOf ByteArray.empty y119 x41_1)] rfl (by (try simp only [List.map_toArray, List.map_cons, List.map_nil]); first | done | rfl | (simp only [List.length_drop, List.length_take]; rfl)) ?_; (with_reducible refine (prim_Integer.calls k1 (rdOf ByteArray.empty y119 x41_1) t124 t125 _ A23.out).mono ?_); rintro e w' ⟨rfl, ⟨nd, rfl⟩⟩; refine ⟨_, rfl, ?_⟩) | ((with_reducible refine gate_callee (f := 11) rfl ?_); refine goesL_ (some 52) rfl rfl Try.func11 (by kernel_rfl) rfl #[.string (rdOf ByteArray.empty y119 x41_1)] rfl (by (try simp only [List.map_toArray, List.map_cons, List.map_nil]); first | done | rfl | (simp only [List.length_drop, List.length_take]; rfl)) ?_; (with_reducible refine (certpathref01_Integer.calls k1 (rdOf ByteArray.empty y119 x41_1) t126 t127 _ A24.out).mono ?_); rintro e w' ⟨rfl, ⟨nd, rfl⟩⟩; refine ⟨_, rfl, ?_⟩))
                            go_ret
                            exact ⟨by first | rfl | (simp [errW_none, errW_some] <;> rfl) | (simp only [← hji7, ← hji11]; first | rfl | (simp [errW_none, errW_some] <;> rfl)) | (simp [*, errW_none, errW_some] <;> rfl), by repeat (first | (with_reducible first | exact HB.out | apply below_alloc | apply pw_below_drewN | apply below_drew1) | exact HB.out)⟩
                        · rw [if_neg c25] at H
                          have c25b0 : (t124 == t126) = false := beq_eq_false_iff_ne.mpr c25
                          have c25b1 : (t124 != t126) = true := bne_iff_ne.mpr c25
                          obtain rfl := Option.some.inj H
                          have p123 : 0 ≤ (x41_1 : Int) := of_decide_eq_true (by first | (with_reducible assumption) | assumption)
                          have q123 : x41_1 < (y119.length : Int) := of_decide_eq_true (by first | (with_reducible assumption) | assumption)
                          obtain ⟨ad123, e123, hx123_0⟩ := Kd.at_string (Kd.R_reads' HO_39.out).2.2 x41_1 p123 q123
                          cases e123
                          replace p123 := eq_true p123
                          replace q123 := eq_true q123
                          go_wp2_with (first | ((with_reducible refine gate_callee (f := 10) rfl ?_); refine goesL_ (some 47) rfl rfl Try.func10 (by kernel_rfl) rfl #[.string (rdOf ByteArray.empty y119 x41_1)] rfl (by (try simp only [List.map_toArray, List.map_cons, List.map_nil]); first | done | rfl | (simp only [List.length_drop, List.length_take]; rfl)) ?_; (with_reducible refine (prim_Integer.calls k1 (rdOf ByteArray.empty y119 x41_1) t124 t125 _ A23.out).mono ?_); rintro e w' ⟨rfl, ⟨nd, rfl⟩⟩; refine ⟨_, rfl, ?_⟩) | ((with_reducible refine gate_callee (f := 11) rfl ?_); refine goesL_ (some 52) rfl rfl Try.func11 (by kernel_rfl) rfl #[.string (rdOf ByteArray.empty y119 x41_1)] rfl (by (try simp only [List.map_toArray, List.map_cons, List.map_nil]); first | done | rfl | (simp only [List.length_drop, List.length_take]; rfl)) ?_; (with_reducible refine (certpathref01_Integer.calls k1 (rdOf ByteArray.empty y119 x41_1) t126 t127 _ A24.out).mono ?_); rintro e w' ⟨rfl, ⟨nd, rfl⟩⟩; refine ⟨_, rfl, ?_⟩))
                          go_ret
                          exact ⟨by first | rfl | (simp [errW_none, errW_some] <;> rfl) | (simp only [← hji7, ← hji11]; first | rfl | (simp [errW_none, errW_some] <;> rfl)) | (simp [*, errW_none, errW_some] <;> rfl), by repeat (first | (with_reducible first | exact HB.out | apply below_alloc | apply pw_below_drewN | apply below_drew1) | exact HB.out)⟩
                      · rw [if_neg c22] at H
                        exact absurd H (by simp)
                    · rw [if_neg c21] at H
                      exact absurd H (by simp)
                  · rw [if_neg c20] at H
                    have c20b0 : decide (x41_1 < (y119.length : Int)) = false := decide_eq_false c20
                    clear c20
                    replace H := Option.bind_eq_some_iff.mp H
                    obtain ⟨t122, A270, H⟩ := H
                    replace H : (some t122) = some r := H
                    have A27 := Aside0.mk A270
                    clear A270
                    obtain rfl := Option.some.inj H
                    go_wp2_with (first | ((with_reducible refine gate_callee (f := 9) rfl ?_); refine goesL_ (some 64) rfl rfl Try.func9 (by kernel_rfl) rfl #[] rfl (by (try simp only [List.map_toArray, List.map_cons, List.map_nil]); first | done | rfl | (simp only [List.length_drop, List.length_take]; rfl)) ?_; (with_reducible refine (certpathlaw03_awake.calls k1  t122 _ A27.out).mono ?_); rintro e w28 ⟨rfl, hb⟩; refine ⟨_, rfl, ?_⟩; have n0_ := Aside0.mk (Kd.R_below (by (with_reducible repeat (first | apply Kd.R_alloc | apply Kd.R_drewN | apply Kd.R_drew)); exact HO_39.out) hb); have n1_ := Aside0.mk (below_step (by repeat (first | (with_reducible first | exact HB.out | apply below_alloc | apply pw_below_drewN | apply below_drew1) | exact HB.out)) hb); clear HO_39; clear HB; have HO_39 := n0_; have HB := n1_; clear n0_ n1_; (try clear hb); (try clear hb2); (try clear hk); (try clear hi)))
                    go_ret
                    exact ⟨by first | rfl | (simp [errW_none, errW_some] <;> rfl) | (simp only [← hji7, ← hji11]; first | rfl | (simp [errW_none, errW_some] <;> rfl)) | (simp [*, errW_none, errW_some] <;> rfl), by repeat (first | (with_reducible first | exact HB.out | apply below_alloc | apply pw_below_drewN | apply below_drew1) | exact HB.out)⟩
            · rw [if_neg c13] at H
              exact absurd H (by simp)
          · rw [if_neg c12] at H
            exact absurd H (by simp)
        · rw [if_neg c10] at H
          exact absurd H (by simp)
      · rw [if_neg c9] at H
        exact absurd H (by simp)
    · rw [if_neg c8] at H
      exact absurd H (by simp)

/-- THE ONE PURE STATEMENT of certpathlaw03_PrimInteger: yours. -/
def certpathlaw03_PrimInteger.Pure : Prop := ∀ (a0 : ByteArray) (a1 : Int) (a2 : Int), a0.size ≤ 140737488351232 → (Lit.int .u8 a1).wf = true → (Lit.int .u8 a2).wf = true → ∃ k, certpathlaw03_PrimInteger.f k a0 a1 a2 = some true
theorem certpathlaw03_PrimInteger.walk (P : certpathlaw03_PrimInteger.Pure) (a0 : ByteArray) (a1 : Int) (a2 : Int) (w : World) (w0 : a0.size ≤ 140737488351232) (w1 : (Lit.int .u8 a1).wf = true) (w2 : (Lit.int .u8 a2).wf = true) :
    Calls Try.prog 3 #[.string a0, .int .u8 a1, .int .u8 a2] w fun e w' => e = .returned (.bool true) ∧ Below w.heap.size w w' := by
  obtain ⟨k, h⟩ := P a0 a1 a2 w0 w1 w2
  refine (certpathlaw03_PrimInteger.calls k a0 a1 a2 true w h).mono ?_
  rintro e w' ⟨rfl, hd⟩
  exact ⟨rfl, hd⟩

end Go.Proofs.Ytpiakeejfggocaa.Q
