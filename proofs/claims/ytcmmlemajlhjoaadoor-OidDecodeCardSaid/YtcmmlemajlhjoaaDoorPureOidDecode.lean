/- For every string and every list of bytes, the program's Decode agrees with the document's definition (no condition beside the form's own). -/
import Derived.Test.YtcmmlemajlhjoaaDoorRx13
import Derived.Test.YtcmmlemajlhjoaaDoorOidRtR
set_option linter.unusedVariables false
set_option linter.unusedSimpArgs false
namespace Go.Proofs.YtcmmlemajlhjoaaDoor.Pure
open Go Go.RowKit Go.Proofs.YtcmmlemajlhjoaaDoor.Q Go.Proofs.YtcmmlemajlhjoaaDoorW.PrintWords Go.Proofs.YtcmmlemajlhjoaaDoorW.PrintLast Go.Proofs.YtcmmlemajlhjoaaDoorW.PrintMore Go.Proofs.YtcmmlemajlhjoaaDoor.Num Go.Proofs.YtcmmlemajlhjoaaDoor.Str Go.Proofs.YtcmmlemajlhjoaaDoor.Oid

theorem table_loop (c : ByteArray) (l : List Int) (hl : l.length ≤ 100) (h8 : ∀ x ∈ l, (Lit.int .u8 x).wf = true) (R : Bool)
    (hend : ∀ b : List Int, b.length = l.length → Ev (fun k => certpathlaw04_OidDecode.l0 k c l b l.length l.length) R) : ∀ (d i : Nat) (b : List Int), i + d = l.length → b.length = l.length → Ev (fun k => certpathlaw04_OidDecode.l0 k c l b l.length i) R
  | 0, i, b, hi, hb => by
    obtain rfl : i = l.length := by omega
    exact hend b hb
  | d + 1, i, b, hi, hb => by
    have hx := h8 _ (rd_mem l i (by omega))
    simp [Lit.wf, IntKind.min, IntKind.max, IntKind.bits, IntKind.signed] at hx
    have ht : Int.tmod (rd l i) 13 = rd l i % 13 := Int.tmod_eq_emod_of_nonneg hx.1
    refine Ev.step (fun k => ?_) (table_loop c l hl h8 R hend d (i + 1) (b.set i (rd [0, 1, 39, 40, 80, 119, 127, 128, 129, 135, 136, 143, 255] (rd l i % 13))) (by omega) (by rw [List.length_set]; exact hb))
    simp only [certpathlaw04_OidDecode.l0]
    rw [if_pos (by omega), Option.bind_some, if_pos (by omega), if_pos (by omega), ht, if_pos (by omega), if_pos (show rd l i % 13 < (([0, 1, 39, 40, 80, 119, 127, 128, 129, 135, 136, 143, 255] : List Int).length : Int) by show _ < ((13 : Nat) : Int); omega), if_pos (by omega), w64 _ (by omega) (by omega), Int.toNat_natCast]
    rfl
theorem pair_loop (xs : List ByteArray) (hx : ∀ x ∈ xs, x.size ≤ 100000) (hl : xs.length < 100) : ∀ (d : Nat) (i : Int), 0 ≤ i → (xs.length : Int) - i = d →
    Ev (fun k => certpathlaw04_OidDecode.l1 k xs xs.length i) true
  | 0, i, h0, hd => by
    refine Ev.step (f := fun k => _) (fun k => by simp only [certpathlaw04_OidDecode.l1]; rw [if_neg (by omega)]) ?_
    exact Ev.bind awake_true (Ev.now _)
  | d + 1, i, h0, hd => by
    have hs : (rdOf ByteArray.empty xs i).size ≤ 100000 := by
      refine hx _ ?_
      unfold rdOf
      rw [List.getD_eq_getElem?_getD, List.getElem?_eq_getElem (by omega)]
      exact List.getElem_mem _
    generalize hxe : rdOf ByteArray.empty xs i = x at hs
    refine Ev.step (fun k => by simp only [certpathlaw04_OidDecode.l1]; rw [if_pos (by omega), if_pos h0, if_pos (by omega), w64 (i + 1) (by omega) (by omega), hxe]) ?_
    refine Ev.bind (dec_p x hs) (Ev.bind (dec_r x hs) ?_)
    refine Ev.congr (fun k => by rw [if_pos rfl, if_pos rfl]) ?_
    exact pair_loop xs hx hl d (i + 1) (by omega) (by omega)
theorem OidDecode : certpathlaw04_OidDecode.Pure := by
  intro s l hs _ hl h8
  apply Ev.rounds
  unfold certpathlaw04_OidDecode.f
  have idle : ∀ x y, Ev (fun k => certpathlaw04_OidDecode.j0 k x y true) true := fun x y => by
    refine Ev.step (f := fun k => _) (fun k => by simp only [certpathlaw04_OidDecode.j0]; rw [if_pos trivial]) ?_
    exact Ev.bind awake_true (Ev.now _)
  by_cases h : (s.size : Int) > 100
  · exact Ev.congr (fun k => by rw [if_pos h]) (idle _ _)
  · refine Ev.congr (fun k => by rw [if_neg h]) ?_
    by_cases h2 : (l.length : Int) > 100
    · rw [decide_eq_true h2]; exact idle _ _
    · rw [decide_eq_false h2]
      refine Ev.step (fun k => by
        simp only [certpathlaw04_OidDecode.j0]
        rw [if_neg (by decide), if_pos (by omega), if_pos (by omega), Int.toNat_natCast]) ?_
      refine table_loop s l (by omega) h8 true ?_ l.length 0 _ (by omega) (by simp)
      intro b hb
      have hsz : (strOfNums b).size = b.length := by unfold strOfNums; simp [ByteArray.size]
      refine Ev.step (fun k => by
        simp only [certpathlaw04_OidDecode.l0]
        rw [if_neg (by omega), if_pos (by omega), Option.bind_some]) ?_
      refine pair_loop _ ?_ (by simp) 3 0 (by omega) (by simp)
      intro x hx
      simp only [List.mem_cons, List.not_mem_nil, or_false] at hx
      rcases hx with rfl | rfl | rfl
      · omega
      · omega
      · rw [ByteArray.size_append]; show _ + 1 ≤ _; omega
end Go.Proofs.YtcmmlemajlhjoaaDoor.Pure
