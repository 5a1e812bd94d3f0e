/- For every string and boolean, the program's Boolean and PutBoolean agree with the document's definition (no condition). -/
import Derived.Test.YtpiakeejfggocaaPPrimBooleanx2
import Derived.Test.YtpiakeejfggocaaNum
import Derived.KernelRfl
set_option linter.unusedVariables false
namespace Go.Proofs.Ytpiakeejfggocaa.Pure
open Go Go.RowKit Go.Proofs.Ytpiakeejfggocaa.PPrimBoolean Go.Proofs.YtpiakeejfggocaaW.PrintWords Go.Proofs.YtpiakeejfggocaaW.PrintLast Go.Proofs.YtpiakeejfggocaaW.PrintMore Go.Proofs.Ytpiakeejfggocaa.Num

theorem awake_true : Ev (fun k => certpathlaw03_awake.f k) true :=
  Ev.of certpathlaw03_awake.mono (k := 12) (by
    unfold certpathlaw03_awake.f
    have e1 : prim_PutFlags.f 12 6 = some (strOfNums [5, 96], 0) := by kernel_rfl
    have e2 : prim_PutInteger.f 12 128 = some (strOfNums [0, 128]) := by kernel_rfl
    have e3 : prim_PutInteger.f 12 (-1) = some (strOfNums [255]) := by kernel_rfl
    rw [e1, e2, e3]
    simp [Lib.toList_data, strOfNums])

theorem boolean_any (a : ByteArray) : ∃ r, prim_Boolean.f a = some r ∧ certpathref01_Boolean.f a = some r := by
  unfold prim_Boolean.f certpathref01_Boolean.f
  by_cases h : a.toList = [0]
  · rw [if_pos h, if_pos h]; exact ⟨_, rfl, by rw [h]; rfl⟩
  · rw [if_neg h, if_neg h]
    by_cases h2 : a.toList = [255]
    · rw [if_pos h2, if_pos h2]; exact ⟨_, rfl, by rw [h2]; rfl⟩
    · rw [if_neg h2, if_neg h2]; exact ⟨_, rfl, rfl⟩

theorem law_loop (v : Bool) (xs : List ByteArray) (hl : xs.length < 100) : ∀ (d : Nat) (i : Int), 0 ≤ i → (xs.length : Int) - i = d →
    Ev (fun k => certpathlaw03_PrimBoolean.l0 k v xs xs.length i) true
  | 0, i, h0, hd => by
    refine Ev.step (f := fun k => _) (fun k => by simp only [certpathlaw03_PrimBoolean.l0]; rw [if_neg (by omega)]) ?_
    refine Ev.bind awake_true ?_
    refine Ev.congr (f := fun _ => some true) (fun k => ?_) (Ev.now _)
    unfold prim_PutBoolean.f certpathref01_PutBoolean.f
    cases v <;> simp
  | d + 1, i, h0, hd => by
    obtain ⟨r, h1, h2⟩ := boolean_any (rdOf ByteArray.empty xs i)
    refine Ev.step (f := fun k => certpathlaw03_PrimBoolean.l0 k v xs xs.length (i + 1)) (fun k => ?_) (law_loop v xs hl d (i + 1) (by omega) (by omega))
    simp only [certpathlaw03_PrimBoolean.l0]; rw [if_pos (by omega), if_pos h0, if_pos (by omega), h1, h2]; simp only [Option.bind_some, bne_self_eq_false, if_true]; rw [if_neg (by decide), w64 (i + 1) (by omega) (by omega)]

theorem PrimBoolean : certpathlaw03_PrimBoolean.Pure := by
  intro a v hn
  apply Ev.rounds
  unfold certpathlaw03_PrimBoolean.f
  by_cases h : (a.size : Int) > 20
  · refine Ev.congr (fun k => by rw [if_pos h]) ?_
    exact Ev.bind awake_true (Ev.now _)
  · refine Ev.congr (fun k => by rw [if_neg h, Option.bind_some]) ?_
    exact law_loop v _ (by simp) 4 0 (by omega) (by simp)

end Go.Proofs.Ytpiakeejfggocaa.Pure
