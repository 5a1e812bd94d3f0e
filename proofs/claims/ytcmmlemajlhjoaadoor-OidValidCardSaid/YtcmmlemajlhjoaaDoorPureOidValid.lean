/- For every string and every list of numbers, the program's Encode and Valid agree with the document's definition (no condition beside the form's own). -/
import Derived.Test.YtcmmlemajlhjoaaDoorQx10
import Derived.Test.YtcmmlemajlhjoaaDoorOidEnc
set_option linter.unusedVariables false
set_option linter.unusedSimpArgs false
namespace Go.Proofs.YtcmmlemajlhjoaaDoor.Pure
open Go Go.RowKit Go.Proofs.YtcmmlemajlhjoaaDoor.Q Go.Proofs.YtcmmlemajlhjoaaDoorW.PrintWords Go.Proofs.YtcmmlemajlhjoaaDoorW.PrintLast Go.Proofs.YtcmmlemajlhjoaaDoorW.PrintMore Go.Proofs.YtcmmlemajlhjoaaDoor.Num Go.Proofs.YtcmmlemajlhjoaaDoor.Str Go.Proofs.YtcmmlemajlhjoaaDoor.Oid

def words : List ByteArray := [(⟨#[48]⟩ : ByteArray), (⟨#[49]⟩ : ByteArray), (⟨#[50]⟩ : ByteArray), (⟨#[51, 57]⟩ : ByteArray), (⟨#[52, 48]⟩ : ByteArray), (⟨#[49, 50, 55]⟩ : ByteArray), (⟨#[49, 50, 56]⟩ : ByteArray), (⟨#[50, 49, 52, 55, 52, 56, 51, 54, 52, 55]⟩ : ByteArray), (⟨#[50, 49, 52, 55, 52, 56, 51, 54, 52, 56]⟩ : ByteArray), (⟨#[57, 57, 57, 57, 57, 57, 57, 57, 57, 57, 57]⟩ : ByteArray), (⟨#[48, 48, 55]⟩ : ByteArray), (⟨#[46]⟩ : ByteArray), (⟨#[46]⟩ : ByteArray), (⟨#[46]⟩ : ByteArray), (⟨#[46]⟩ : ByteArray), (⟨#[46, 53, 46]⟩ : ByteArray), (⟨#[45]⟩ : ByteArray), (⟨#[97]⟩ : ByteArray), (⟨#[32]⟩ : ByteArray)]
theorem words_size (j : Int) : (rdOf ByteArray.empty words j).size ≤ 11 := by
  unfold rdOf
  rw [List.getD_eq_getElem?_getD]
  cases h : words[j.toNat]? with
  | none => decide
  | some x =>
    have hm : x ∈ words := List.mem_of_getElem? h
    have hall : ∀ x ∈ words, x.size ≤ 11 := by decide
    exact hall x hm
theorem pieces_loop (l : List Int) (hl : l.length ≤ 140737488351232) (h8 : ∀ x ∈ l, (Lit.int .u8 x).wf = true) : ∀ (d i : Nat) (s : ByteArray), i + d = 30 → s.size ≤ 11 * i → ∃ r, Ev (fun k => certpathlaw04_pieces.l0 k l s i) r ∧ r.size ≤ 400
  | 0, i, s, hi, hs => by
    refine ⟨s, Ev.step (f := fun _ => some s) (fun k => ?_) (Ev.now _), by omega⟩
    simp only [certpathlaw04_pieces.l0]
    by_cases h : (i : Int) < l.length
    · rw [if_pos h, if_neg (by omega)]
    · rw [if_neg h]
  | d + 1, i, s, hi, hs => by
    by_cases h : (i : Int) < l.length
    · have hm : rd l i ∈ l := rd_mem l i (by omega)
      have hw := h8 _ hm
      have h0 : 0 ≤ rd l i ∧ rd l i ≤ 255 := by
        simp [Lit.wf, IntKind.min, IntKind.max, IntKind.bits, IntKind.signed] at hw; omega
      have hz := words_size (Int.tmod (rd l i) 19)
      obtain ⟨r, hr, hrs⟩ := pieces_loop l hl h8 d (i + 1) (s ++ rdOf ByteArray.empty words (Int.tmod (rd l i) 19)) (by omega) (by rw [ByteArray.size_append]; omega)
      refine ⟨r, Ev.step (fun k => ?_) hr, hrs⟩
      simp only [certpathlaw04_pieces.l0]
      have ht : Int.tmod (rd l i) 19 = rd l i % 19 := Int.tmod_eq_emod_of_nonneg h0.1
      rw [if_pos h, if_pos (by omega), Option.bind_some, if_pos (by omega), if_pos (by omega)]
      refine (if_pos (show Int.tmod (rd l i) 19 < (words.length : Int) by rw [ht]; show _ < (19 : Int); omega)).trans ?_
      have e : s.size + (rdOf ByteArray.empty words (Int.tmod (rd l i) 19)).size ≤ 9223372036854775807 := by omega
      refine (if_pos e).trans ?_
      rw [w64 _ (by omega) (by omega)]
      rfl
    · refine ⟨s, Ev.step (f := fun _ => some s) (fun k => ?_) (Ev.now _), by omega⟩
      simp only [certpathlaw04_pieces.l0]
      rw [if_neg h]
theorem pieces_any (l : List Int) (hl : l.length ≤ 140737488351232) (h8 : ∀ x ∈ l, (Lit.int .u8 x).wf = true) : ∃ r, Ev (fun k => certpathlaw04_pieces.f k l) r ∧ r.size ≤ 400 :=
  pieces_loop l hl h8 30 0 ⟨#[]⟩ (by omega) (by decide)
theorem law_loop (xs : List ByteArray) (hx : ∀ x ∈ xs, x.size ≤ 100000) (hl : xs.length < 100) : ∀ (d : Nat) (i : Int), 0 ≤ i → (xs.length : Int) - i = d →
    Ev (fun k => certpathlaw04_OidValid.l0 k xs xs.length i) true
  | 0, i, h0, hd => by
    refine Ev.step (f := fun k => _) (fun k => by simp only [certpathlaw04_OidValid.l0]; rw [if_neg (by omega)]) ?_
    exact Ev.bind awake_true (Ev.now _)
  | d + 1, i, h0, hd => by
    have hs : (rdOf ByteArray.empty xs i).size ≤ 100000 := by
      refine hx _ ?_
      unfold rdOf
      rw [List.getD_eq_getElem?_getD, List.getElem?_eq_getElem (by omega)]
      exact List.getElem_mem _
    generalize hxe : rdOf ByteArray.empty xs i = x at hs
    refine Ev.step (fun k => by simp only [certpathlaw04_OidValid.l0]; rw [if_pos (by omega), if_pos h0, if_pos (by omega), w64 (i + 1) (by omega) (by omega), hxe]) ?_
    refine Ev.bind (enc_p x hs) (Ev.bind (enc_r x hs) (Ev.bind (valid_p x hs) (Ev.bind (valid_r x hs) ?_)))
    rw [bne_self_eq_false]
    refine Ev.congr (fun k => by rw [if_neg (by decide), if_pos rfl, if_pos rfl]) ?_
    exact law_loop xs hx hl d (i + 1) (by omega) (by omega)
theorem OidValid : certpathlaw04_OidValid.Pure := by
  intro s l hs _ hl h8
  apply Ev.rounds
  unfold certpathlaw04_OidValid.f
  by_cases h : (s.size : Int) > 200
  · refine Ev.congr (fun k => by rw [if_pos h]) ?_
    exact Ev.bind awake_true (Ev.now _)
  · refine Ev.congr (fun k => by rw [if_neg h]) ?_
    obtain ⟨p, hp, hps⟩ := pieces_any l (by omega) h8
    refine Ev.bind hp (Ev.bind hp ?_)
    refine Ev.congr (fun k => by rw [if_pos (by omega), if_pos (by omega), Option.bind_some]) ?_
    refine law_loop _ ?_ (by simp) 4 0 (by omega) (by simp)
    intro x hx
    simp only [List.mem_cons, List.not_mem_nil, or_false] at hx
    rcases hx with rfl | rfl | rfl | rfl
    · omega
    · omega
    · rw [ByteArray.size_append]; show 2 + p.size ≤ _; omega
    · rw [ByteArray.size_append]; show 4 + s.size ≤ _; omega

end Go.Proofs.YtcmmlemajlhjoaaDoor.Pure
