/- Words for the laws of streams. -/
import Derived.Test.YtpiakeejfggocabFew
import Derived.Test.YtpiakeejfggocabRowStrs
import Derived.Test.YtpiakeejfggocabQx6
import Derived.Test.YtpiakeejfggocabQx1
import Derived.Test.YtpiakeejfggocabQx8
set_option linter.unusedVariables false
set_option linter.unusedSimpArgs false
namespace Go.Proofs.Ytpiakeejfggocab.Pure
open Go Go.RowKit Go.Proofs.Ytpiakeejfggocab.Q Go.Proofs.YtpiakeejfggocabW.PrintWords Go.Proofs.YtpiakeejfggocabW.PrintLast Go.Proofs.YtpiakeejfggocabW.PrintMore Go.Proofs.Ytpiakeejfggocab.Num Go.Proofs.Ytpiakeejfggocab.Strm Go.Proofs.Ytpiakeejfggocab.Hand Go.Proofs.Ytpiakeejfggocab.RefSum

theorem row_keep2 {w W : World} {g base : Nat} {v : Value} {xs : List Int} {c : Array Value} (h : (Kd.int .u8).R 5 w base (fun _ => True) v xs) (hb : w.heap[g]? = some (.cells c 39 (0, 0))) (hg : w.grownBy W (some g)) : (Kd.int .u8).R 5 W base (fun _ => True) v xs := Strm.row_keep h hb hg
theorem strm_keep {blk : List Int → List Int → List Int} {base g g' : Nat} {w w1 : World} {m m' : List Int} (h : Strm.Strm blk base w g m) (h' : Strm.Strm blk base w g' m') (hg : w.grownBy w1 (some g')) (hne : g ≠ g') : Strm.Strm blk base w1 g m := by
  obtain ⟨v, h1, h2, h3, h4⟩ := h
  obtain ⟨v', h1', _⟩ := h'
  exact ⟨v, (hg.block g (blk_lt h1) (fun e => hne (by injection e))).trans h1, h2, row_keep2 h3 h1' hg, h4⟩
theorem strm_below {blk : List Int → List Int → List Int} {base g : Nat} {w w1 : World} {m : List Int} (h : Strm.Strm blk base w g m) (hb : Below w.heap.size w w1) : Strm.Strm blk base w1 g m := h.step (fun k hk _ => hb.block k hk)
theorem awake_k : ∃ k, certpathlaw01_awake.f k = some true := awake_ev.rounds
theorem ref_k (l : List ByteArray) (hcat : (cat l).length ≤ 1000000000) (hlen : l.length ≤ 1000000000) (D : ByteArray) (hD : digest (cat l) = D) : ∃ k, certpathref01_Sum.f k l = some D := by
  rw [← hD]; exact (refsum_ev l hcat hlen).rounds

theorem sumD (base g : Nat) (m : List Int) (w : World) (hI : Strm.Strm Comp.comp base w g m) (hm : m.length ≤ 1000000000) {D : ByteArray} (hD : digest m = D) : Calls Try.prog 16 #[.pointer (some ⟨g, 0, none⟩)] w fun e w' => e = .returned (.string D) ∧ Below w.heap.size w w' := by
  rw [← hD]; exact sum_calls Comp.comp_ok base g m w hI hm
theorem lenN (base g : Nat) (n : Nat) (m : List Int) (w : World) (hI : Strm.Strm Comp.comp base w g m) (hn : m.length = n) : Calls Try.prog 17 #[.pointer (some ⟨g, 0, none⟩)] w fun e w' => e = .returned (.int .i64 n) ∧ w = w' := by
  rw [← hn]; exact len_calls base g w m hI
theorem awakeC (w : World) : Calls Try.prog 9 #[] w fun e w' => e = .returned (.bool true) ∧ Below w.heap.size w w' := by
  obtain ⟨k, hk⟩ := awake_k
  exact certpathlaw01_awake.calls k true w hk
theorem refNil (w : World) {D : ByteArray} (hD : digest (cat []) = D) : Calls Try.prog 11 #[.slice none 0 0] w fun e w' => e = .returned (.string D) ∧ Below w.heap.size w w' := by
  obtain ⟨k, hk⟩ := ref_k [] (by decide) (by decide) D hD
  exact certpathref01_Sum.calls k none 0 [] D w (Kd.C_nil _ _) (Nat.le_refl _) hk
theorem sumNil (w : World) {D : ByteArray} (hD : digest (cat []) = D) : Calls Try.prog 16 #[.pointer none] w fun e w' => e = .returned (.string D) ∧ Below w.heap.size w w' := by
  rw [← hD]; exact sum_nil Comp.comp_ok w
theorem lit1 (W : World) (s : ByteArray) : Kd.C Kd.string (W.alloc (.cells #[.string s] 9)) (some ⟨W.heap.size, 0, none⟩) 1 [s] := by
  refine Kd.C_of_reads (d := ByteArray.empty) (h1 := fun _ => rfl) ⟨rfl, by decide, fun _ => ⟨_, rfl, fun j hj => ?_⟩⟩
  obtain rfl : j = 0 := by omega
  rw [add_plain]
  exact (blk_cell (heap_alloc_new W (.cells #[.string s] 9)) 0).trans rfl
theorem cat_one (s : ByteArray) : cat [s] = bytesOf s := by unfold cat; simp
theorem sum1 (s D : ByteArray) (g : Nat) (W : World) (hC : Kd.C Kd.string W (some ⟨g, 0, none⟩) 1 [s]) (hD : digest (bytesOf s) = D) (hn : s.size ≤ 1000000000) : Calls Try.prog 10 #[.slice (some ⟨g, 0, none⟩) 1 1] W fun e w' => e = .returned (.string D) ∧ Below W.heap.size W w' := by
  have h := sum_some [s] (by rw [cat_one, bytesOf_length]; exact hn) (show 1 ≤ 1000000000 by decide)
  rw [cat_one, hD] at h
  exact hash_Sum.calls (some ⟨g, 0, none⟩) 1 [s] D W hC (Nat.le_refl _) h
theorem ref1 (s D : ByteArray) (g : Nat) (W : World) (hC : Kd.C Kd.string W (some ⟨g, 0, none⟩) 1 [s]) (hD : digest (bytesOf s) = D) (hn : s.size ≤ 1000000000) : Calls Try.prog 11 #[.slice (some ⟨g, 0, none⟩) 1 1] W fun e w' => e = .returned (.string D) ∧ Below W.heap.size W w' := by
  obtain ⟨k, hk⟩ := ref_k [s] (by rw [cat_one, bytesOf_length]; exact hn) (show 1 ≤ 1000000000 by decide) D (by rw [cat_one]; exact hD)
  exact certpathref01_Sum.calls k (some ⟨g, 0, none⟩) 1 [s] D W hC (Nat.le_refl _) hk
end Go.Proofs.Ytpiakeejfggocab.Pure
