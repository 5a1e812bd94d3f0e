/- The definition's function of a block comes to the plain one. -/
import Derived.Test.YtpiakeejfggocabComp
import Derived.Test.YtpiakeejfggocabQx7
set_option linter.unusedVariables false
set_option linter.unusedSimpArgs false
namespace Go.Proofs.Ytpiakeejfggocab.Comp
open Go Go.RowKit Go.Proofs.YtpiakeejfggocabW.PrintWords Go.Proofs.YtpiakeejfggocabW.PrintLast Go.Proofs.YtpiakeejfggocabW.PrintMore Go.Proofs.Ytpiakeejfggocab.Num Go.Proofs.Ytpiakeejfggocab.Sha Go.Proofs.Ytpiakeejfggocab.Strm

/-! ### The definition's -/
section
variable {r : List Int} (h0 : List Int)
theorem r_l0 (b : ByteArray) (hb : b.size = 64) : ∀ (d i : Nat) (w : List Int), i + d = 16 → (∃ k, Q.certpathref01_round.l1 k h0 Hand.K64 (fillA (bt b) d i w) 16 = some r) → ∃ k, Q.certpathref01_round.l0 k h0 b Hand.K64 w i = some r
  | 0, i, w, hi, ⟨k, hk⟩ => ⟨k + 1, by
      simp only [Q.certpathref01_round.l0]
      rw [if_neg (by omega)]
      exact hk⟩
  | d + 1, i, w, hi, hk => by
    obtain ⟨k, hk⟩ := r_l0 b hb d (i + 1) (w.set i (word (bt b) i)) (by omega) hk
    refine ⟨k + 1, ?_⟩
    simp only [Q.certpathref01_round.l0]
    rw [wr (4 * (i : Int)) (by omega) (by omega), wr (4 * (i : Int) + 1) (by omega) (by omega), wr (4 * (i : Int) + 2) (by omega) (by omega), wr (4 * (i : Int) + 3) (by omega) (by omega), wr ((i : Int) + 1) (by omega) (by omega)]
    rw [if_pos (by omega), if_pos (by omega), if_pos (by omega), if_pos (by omega), if_pos (by omega), if_pos (by omega), if_pos (by omega), if_pos (by omega), if_pos (by omega), if_pos (by omega), if_pos (by omega), set_i]
    exact hk
theorem r_l1 (hh : h0.length = 8) : ∀ (d i : Nat) (w : List Int), i + d = 64 → 16 ≤ i → (∃ k, Q.certpathref01_round.l2 k h0 Hand.K64 (fillB d i w) (wd h0 0) (wd h0 1) (wd h0 2) (wd h0 3) (wd h0 4) (wd h0 5) (wd h0 6) (wd h0 7) 0 = some r) → ∃ k, Q.certpathref01_round.l1 k h0 Hand.K64 w i = some r
  | 0, i, w, hi, h16, ⟨k, hk⟩ => ⟨k + 1, by
      simp only [Q.certpathref01_round.l1]
      rw [if_neg (by omega), hh, if_pos (by decide), if_pos (by decide), if_pos (by decide), if_pos (by decide), if_pos (by decide), if_pos (by decide), if_pos (by decide), if_pos (by decide)]
      exact hk⟩
  | d + 1, i, w, hi, h16, hk => by
    obtain ⟨k, hk⟩ := r_l1 hh d (i + 1) (w.set i (nxt w i)) (by omega) (by omega) hk
    refine ⟨k + 1, ?_⟩
    simp only [Q.certpathref01_round.l1]
    rw [wr ((i : Int) - 15) (by omega) (by omega), wr ((i : Int) - 2) (by omega) (by omega), wr ((i : Int) - 16) (by omega) (by omega), wr ((i : Int) - 7) (by omega) (by omega), wr ((i : Int) + 1) (by omega) (by omega)]
    rw [if_pos (by omega), if_pos (by omega), if_pos (by omega), if_pos (by omega), if_pos (by omega), if_pos (by omega), if_pos (by omega), if_pos (by omega), if_pos (by omega), if_pos (by omega), if_pos (by omega), set_i]
    exact hk
theorem r_l2 (hh : h0.length = 8) (w : List Int) : ∀ (n i : Nat) (a b c d e f g h : Int), i + n = 64 → ∃ k, Q.certpathref01_round.l2 k h0 Hand.K64 w a b c d e f g h i = some (List.zipWith (fun x y => (x + y) % 4294967296) h0 (rnd w n i a b c d e f g h))
  | 0, i, a, b, c, d, e, f, g, h, hi => ⟨1, by
    simp only [Q.certpathref01_round.l2]
    rw [if_neg (by omega), hh, if_pos (by decide), if_pos (by decide), if_pos (by decide), if_pos (by decide), if_pos (by decide), if_pos (by decide), if_pos (by decide), if_pos (by decide)]
    have e0 := list8 hh
    conv => rhs; rw [e0]
    rfl⟩
  | n + 1, i, a, b, c, d, e, f, g, h, hi => by
    obtain ⟨k, hk⟩ := r_l2 hh w n (i + 1) ((t1 w i e f g h + (b0 a + maj a b c)) % 4294967296) a b c ((d + t1 w i e f g h) % 4294967296) e f g (by omega)
    refine ⟨k + 1, ?_⟩
    simp only [Q.certpathref01_round.l2]
    rw [wr ((i : Int) + 1) (by omega) (by omega)]
    rw [if_pos (by omega), if_pos (by omega), if_pos (by show (i : Int) < 64; omega), if_pos (by omega)]
    exact hk
end
theorem round_ok (h : List Int) (hg : h.length = 8) (b : ByteArray) (hb : b.size = 64) : ∃ k, Q.certpathref01_round.f k h b = some (comp h (bytesOf b)) := by
  unfold Q.certpathref01_round.f
  refine r_l0 h b hb 16 0 _ rfl (r_l1 h hg 48 16 _ rfl (by decide) ?_)
  obtain ⟨k, hk⟩ := r_l2 h hg (sched (bt b)) 64 0 (wd h 0) (wd h 1) (wd h 2) (wd h 3) (wd h 4) (wd h 5) (wd h 6) (wd h 7) rfl
  refine ⟨k, hk.trans ?_⟩
  unfold comp compG
  rw [show rd (bytesOf b) = bt b from funext (rd_bytesOf b)]
end Go.Proofs.Ytpiakeejfggocab.Comp
