/- Which lists Few lets in. -/
import Derived.Test.YtpiakeejfggocabRefSum
import Derived.Test.YtpiakeejfggocabAwake
import Derived.Test.YtpiakeejfggocabQx1
import Derived.KernelRfl
set_option linter.unusedVariables false
set_option linter.unusedSimpArgs false
namespace Go.Proofs.Ytpiakeejfggocab.Pure
open Go Go.RowKit Go.Proofs.Ytpiakeejfggocab.Q Go.Proofs.YtpiakeejfggocabW.PrintWords Go.Proofs.YtpiakeejfggocabW.PrintLast Go.Proofs.YtpiakeejfggocabW.PrintMore Go.Proofs.Ytpiakeejfggocab.Num Go.Proofs.Ytpiakeejfggocab.Strm Go.Proofs.Ytpiakeejfggocab.Hand Go.Proofs.Ytpiakeejfggocab.RefSum

theorem few_l (l : List ByteArray) (m : Int) (hl : l.length ≤ 1000) : ∀ (d i : Nat), i + d = l.length → Ev (fun k => certpathmade_Few.l0 k m l (l.length : Int) (i : Int)) ((l.drop i).all fun x => decide ((x.size : Int) ≤ m))
  | 0, i, hi => by
    refine Ev.step (f := fun _ => some true) (fun k => by simp only [certpathmade_Few.l0]; rw [if_neg (by omega)]) ?_
    rw [List.drop_eq_nil_of_le (by omega)]; exact Ev.now _
  | d + 1, i, hi => by
    have e : rdOf ByteArray.empty l (i : Int) = l[i]'(by omega) := by unfold rdOf; rw [Int.toNat_natCast, List.getD_eq_getElem?_getD, List.getElem?_eq_getElem (by omega), Option.getD_some]
    rw [List.drop_eq_getElem_cons (by omega), List.all_cons]
    by_cases h : ((l[i]'(by omega)).size : Int) > m
    · refine Ev.step (f := fun _ => some false) (fun k => by simp only [certpathmade_Few.l0]; rw [if_pos (by omega), if_pos (by omega), if_pos (by omega), e, if_pos h]) ?_
      rw [decide_eq_false (by omega), Bool.false_and]; exact Ev.now _
    · refine Ev.step (f := fun k => certpathmade_Few.l0 k m l (l.length : Int) ((i + 1 : Nat) : Int)) (fun k => by simp only [certpathmade_Few.l0]; rw [if_pos (by omega), if_pos (by omega), if_pos (by omega), e, if_neg h, w64 ((i : Int) + 1) (by omega) (by omega)]; rfl) ?_
      rw [decide_eq_true (by omega), Bool.true_and]; exact few_l l m hl d (i + 1) (by omega)
def few (l : List ByteArray) (n : Nat) (m : Int) : Bool := decide (l.length ≤ n) && l.all fun x => decide ((x.size : Int) ≤ m)
theorem few_ev (l : List ByteArray) (n : Nat) (m : Int) (hn : n ≤ 1000) : Ev (fun k => certpathmade_Few.f k l (n : Int) m) (few l n m) := by
  unfold certpathmade_Few.f few
  by_cases h : (l.length : Int) > n
  · refine Ev.congr (fun k => by rw [if_pos h]) ?_
    rw [decide_eq_false (by omega), Bool.false_and]; exact Ev.now _
  · refine Ev.congr (fun k => by rw [if_neg h]) ?_
    rw [decide_eq_true (by omega), Bool.true_and]
    exact few_l l m (by omega) l.length 0 (by omega)
theorem cat_bound (m : Nat) : ∀ (l : List ByteArray), (∀ x ∈ l, x.size ≤ m) → (cat l).length ≤ m * l.length
  | [], _ => Nat.le_refl _
  | a :: l, h => by
    have h1 := cat_bound m l (fun x hx => h x (List.mem_cons_of_mem _ hx))
    have h2 := h a (List.mem_cons_self ..)
    unfold cat at *
    rw [List.flatMap_cons, List.length_append, bytesOf_length, List.length_cons, Nat.mul_succ]
    omega
theorem few_bounds (l : List ByteArray) (h : few l 20 400 = true) : l.length ≤ 20 ∧ (∀ x ∈ l, x.size ≤ 400) ∧ (cat l).length ≤ 8000 := by
  unfold few at h
  rw [Bool.and_eq_true] at h
  have h1 : l.length ≤ 20 := of_decide_eq_true h.1
  have h2 : ∀ x ∈ l, x.size ≤ 400 := fun x hx => by have := List.all_eq_true.1 h.2 x hx; have := of_decide_eq_true this; omega
  have h3 := cat_bound 400 l h2
  exact ⟨h1, h2, by omega⟩
end Go.Proofs.Ytpiakeejfggocab.Pure
