/- For every string and every choice of the leading bytes, the program's Integer agrees with the document's definition (no condition). -/
import Derived.Test.YtpiakeejfggocaaQx4
import Derived.Test.YtpiakeejfggocaaNum
import Derived.KernelRfl
set_option linter.unusedVariables false
set_option linter.unusedSimpArgs false
namespace Go.Proofs.Ytpiakeejfggocaa.Pure
open Go Go.RowKit Go.Proofs.Ytpiakeejfggocaa.Q Go.Proofs.YtpiakeejfggocaaW.PrintWords Go.Proofs.YtpiakeejfggocaaW.PrintLast Go.Proofs.YtpiakeejfggocaaW.PrintMore Go.Proofs.Ytpiakeejfggocaa.Num

theorem awake_true : Ev (fun k => certpathlaw03_awake.f k) true :=
  Ev.of certpathlaw03_awake.mono (k := 12) (by
    unfold certpathlaw03_awake.f
    have e1 : prim_PutFlags.f 12 6 = some (strOfNums [5, 96], 0) := by kernel_rfl
    have e2 : prim_PutInteger.f 12 128 = some (strOfNums [0, 128]) := by kernel_rfl
    have e3 : prim_PutInteger.f 12 (-1) = some (strOfNums [255]) := by kernel_rfl
    rw [e1, e2, e3]
    simp [Lib.toList_data, strOfNums])

/-- Are the contents of an integer refused? -/
def bad (s : ByteArray) : Bool := decide (s.size = 0) || (decide (1 < s.size) && ((decide (bt s 0 = 0) && decide (bt s 1 < 128)) || (decide (bt s 0 = 255) && decide (bt s 1 ≥ 128))))
def sgn (s : ByteArray) : Int := if bt s 0 ≥ 128 then -1 else 0
def intOf (s : ByteArray) : Int × Int := if bad s = true then (0, 7) else if s.size > 8 then (0, 1) else (wrap64 (be (sgn s) (bytesOf s)), 0)

theorem int_door (s : ByteArray) (k : Nat) : prim_Integer.f k s = prim_Integer.j0 k s (bad s) := by
  unfold prim_Integer.f bad
  by_cases h0 : s.size = 0
  · rw [if_pos ((toList_nil_iff s).2 (by omega))]; simp [h0]
  · rw [if_neg (fun h => h0 (by have := (toList_nil_iff s).1 h; omega))]
    by_cases h1 : 1 < s.size
    · rw [if_pos (by omega), if_pos (by omega), if_pos (by omega : (1 : Int) < s.size)]
      by_cases h2 : bt s 0 = 0
      · by_cases h3 : bt s 1 < 128 <;> simp [h0, h1, h2, h3]
      · by_cases h4 : bt s 0 = 255 <;> simp [h0, h1, h2, h4]
        omega
    · rw [if_neg (by omega)]; simp [h0, h1]
theorem int_loop (s : ByteArray) (hs : s.size ≤ 140737488351232) : ∀ (d : Nat) (i : Nat) (x : Int), (s.size : Int) - 1 - i = d →
    Ev (fun k => prim_Integer.l0 k s (wrap64 x) ((s.size : Int) - 1) i) (wrap64 (be x ((bytesOf s).drop (i + 1))), 0)
  | 0, i, x, hd => by
    refine Ev.step (f := fun k => some (wrap64 x, 0)) (fun k => by simp only [prim_Integer.l0]; rw [if_neg (by omega)]) ?_
    rw [List.drop_of_length_le (by rw [bytesOf_length]; omega), be_nil]
    exact Ev.now _
  | d + 1, i, x, hd => by
    have hb := bt_range s ((i : Int) + 1)
    have e1 : wrap64 ((i : Int) + 1) = (i : Int) + 1 := w64 _ (by omega) (by omega)
    refine Ev.step (f := fun k => prim_Integer.l0 k s (wrap64 (x * 256 + bt s ((i : Int) + 1))) ((s.size : Int) - 1) ((i + 1 : Nat) : Int)) (fun k => ?_) ?_
    · simp only [prim_Integer.l0]
      rw [if_pos (by omega), e1, if_pos (by omega), if_pos (by omega), w64 (bt s _) (by omega) (by omega), or_i64 _ _ hb.1 (by omega)]
      rw [wrap64_congr (a := wrap64 x * 256 + bt s ((i : Int) + 1)) (b := x * 256 + bt s ((i : Int) + 1)) (by have := wrap64_mod x; omega)]
      rfl
    · have := int_loop s hs d (i + 1) (x * 256 + bt s ((i : Int) + 1)) (by omega)
      rw [drop_bt s (i + 1) (by omega), be_cons]
      exact this
theorem int_any (s : ByteArray) (hs : s.size ≤ 140737488351232) : Ev (fun k => prim_Integer.f k s) (intOf s) := by
  refine Ev.congr (int_door s) ?_
  unfold intOf
  by_cases h : bad s = true
  · rw [if_pos h, h]
    exact Ev.step (f := fun _ => some (0, 7)) (fun k => by simp only [prim_Integer.j0]; rw [if_pos trivial]) (Ev.now _)
  · have hz : s.size ≠ 0 := fun e => h (by unfold bad; simp [e])
    rw [if_neg h, (by simpa using h : bad s = false)]
    by_cases h8 : s.size > 8
    · rw [if_pos h8]
      exact Ev.step (f := fun _ => some (0, 1)) (fun k => by simp only [prim_Integer.j0]; rw [if_neg (by decide), if_pos (by omega)]) (Ev.now _)
    · rw [if_neg h8]
      have hb := bt_range s 0
      refine Ev.step (f := fun k => prim_Integer.l0 k s (wrap64 (sgn s * 256 + bt s 0)) ((s.size : Int) - 1) (0 : Nat)) (fun k => ?_) ?_
      · simp only [prim_Integer.j0]
        rw [if_neg (by decide), if_neg (by omega), if_pos (by omega), w64 ((s.size : Int) - 1) (by omega) (by omega), i8w]
        congr 2
        unfold sgn; split <;> omega
      · have := int_loop s hs (s.size - 1) 0 (sgn s * 256 + bt s 0) (by omega)
        have e : bytesOf s = bt s 0 :: (bytesOf s).drop (0 + 1) := drop_bt s 0 (by omega)
        rw [← be_cons, ← e] at this
        exact this

theorem rint_door (s : ByteArray) (k : Nat) : certpathref01_Integer.f k s = certpathref01_Integer.j0 k s (bad s) := by
  unfold certpathref01_Integer.f bad
  by_cases h0 : s.size = 0
  · rw [if_pos (by omega)]; simp [h0]
  · rw [if_neg (by omega)]
    by_cases h1 : 1 < s.size
    · rw [if_pos (by omega), if_pos (by omega), if_pos (by omega : (1 : Int) < s.size)]
      by_cases h2 : bt s 0 = 0
      · by_cases h3 : bt s 1 < 128 <;> simp [h0, h1, h2, h3]
      · by_cases h4 : bt s 0 = 255 <;> simp [h0, h1, h2, h4]
        omega
    · rw [if_neg (by omega)]; simp [h0, h1]
theorem rint_loop (s : ByteArray) (hs : s.size ≤ 140737488351232) : ∀ (d : Nat) (i : Nat) (x : Int), (s.size : Int) - i = d →
    Ev (fun k => certpathref01_Integer.l0 k s (IntKind.u64.wrap x) i) (wrap64 (be x ((bytesOf s).drop i)), 0)
  | 0, i, x, hd => by
    refine Ev.step (f := fun k => some (wrap64 x, 0)) (fun k => ?_) ?_
    · simp only [certpathref01_Integer.l0]; rw [if_neg (by omega), wrap64_congr (a := IntKind.u64.wrap x) (b := x) (by rw [u64w]; omega)]
    · rw [List.drop_of_length_le (by rw [bytesOf_length]; omega), be_nil]
      exact Ev.now _
  | d + 1, i, x, hd => by
    have hb := bt_range s (i : Int)
    refine Ev.step (f := fun k => certpathref01_Integer.l0 k s (IntKind.u64.wrap (x * 256 + bt s (i : Int))) ((i + 1 : Nat) : Int)) (fun k => ?_) ?_
    · simp only [certpathref01_Integer.l0]
      rw [if_pos (by omega), if_pos (by omega), w64 ((i : Int) + 1) (by omega) (by omega), u64 (bt s _) (by omega) (by omega), or_u64 _ _ hb.1 (by omega)]
      rw [show IntKind.u64.wrap (IntKind.u64.wrap x * 256 + bt s (i : Int)) = IntKind.u64.wrap (x * 256 + bt s (i : Int)) by rw [u64w, u64w, u64w]; omega]
      rfl
    · have := rint_loop s hs d (i + 1) (x * 256 + bt s (i : Int)) (by omega)
      rw [drop_bt s i (by omega), be_cons]
      exact this
theorem rint_any (s : ByteArray) (hs : s.size ≤ 140737488351232) : Ev (fun k => certpathref01_Integer.f k s) (intOf s) := by
  refine Ev.congr (rint_door s) ?_
  unfold intOf
  by_cases h : bad s = true
  · rw [if_pos h, h]
    exact Ev.step (f := fun _ => some (0, 7)) (fun k => by simp only [certpathref01_Integer.j0]; rw [if_pos trivial]) (Ev.now _)
  · have hz : s.size ≠ 0 := fun e => h (by unfold bad; simp [e])
    rw [if_neg h, (by simpa using h : bad s = false)]
    by_cases h8 : s.size > 8
    · rw [if_pos h8]
      exact Ev.step (f := fun _ => some (0, 1)) (fun k => by simp only [certpathref01_Integer.j0]; rw [if_neg (by decide), if_pos (by omega)]) (Ev.now _)
    · rw [if_neg h8]
      have hl := rint_loop s hs s.size 0 (sgn s) (by omega)
      refine Ev.step (f := fun k => certpathref01_Integer.j1 k s (IntKind.u64.wrap (sgn s))) (fun k => ?_) (Ev.step (fun k => by simp only [certpathref01_Integer.j1]; rfl) hl)
      simp only [certpathref01_Integer.j0]
      rw [if_neg (by decide), if_neg (by omega), if_pos (by omega), u64w]
      unfold sgn
      by_cases hg : bt s 0 ≥ 128
      · rw [if_pos hg, if_pos hg]; rfl
      · rw [if_neg hg, if_neg hg]; rfl


theorem law_loop (xs : List ByteArray) (hx : ∀ x ∈ xs, x.size ≤ 140737488351232) (hl : xs.length < 100) : ∀ (d : Nat) (i : Int), 0 ≤ i → (xs.length : Int) - i = d →
    Ev (fun k => certpathlaw03_PrimInteger.l0 k xs xs.length i) true
  | 0, i, h0, hd => by
    refine Ev.step (f := fun k => _) (fun k => by simp only [certpathlaw03_PrimInteger.l0]; rw [if_neg (by omega)]) ?_
    exact Ev.bind awake_true (Ev.now _)
  | d + 1, i, h0, hd => by
    have hs : (rdOf ByteArray.empty xs i).size ≤ 140737488351232 := by
      refine hx _ ?_
      unfold rdOf
      rw [List.getD_eq_getElem?_getD, List.getElem?_eq_getElem (by omega)]
      exact List.getElem_mem _
    refine Ev.step (f := fun k => (prim_Integer.f k (rdOf ByteArray.empty xs i)).bind fun bt124 => (certpathref01_Integer.f k (rdOf ByteArray.empty xs i)).bind fun bt126 => if bt124.1 = bt126.1 then (if bt124.2 = bt126.2 then certpathlaw03_PrimInteger.l0 k xs xs.length (i + 1) else some false) else some false) (fun k => ?_) ?_
    · simp only [certpathlaw03_PrimInteger.l0]; rw [if_pos (by omega), if_pos h0, if_pos (by omega), w64 (i + 1) (by omega) (by omega)]
    · refine Ev.bind (int_any _ hs) ?_
      refine Ev.bind (rint_any _ hs) ?_
      simp only [if_true]
      exact law_loop xs hx hl d (i + 1) (by omega) (by omega)

theorem PrimInteger : certpathlaw03_PrimInteger.Pure := by
  intro a lead n hn hle hnn
  have hle' : 0 ≤ lead ∧ lead ≤ 255 := by simp [Lit.wf, IntKind.min, IntKind.max, IntKind.bits, IntKind.signed] at hle; omega
  have hnn' : 0 ≤ n ∧ n ≤ 255 := by simp [Lit.wf, IntKind.min, IntKind.max, IntKind.bits, IntKind.signed] at hnn; omega
  apply Ev.rounds
  unfold certpathlaw03_PrimInteger.f
  by_cases h : (a.size : Int) > 20
  · refine Ev.congr (fun k => by rw [if_pos h]) ?_
    exact Ev.bind awake_true (Ev.now _)
  · refine Ev.congr (fun k => by rw [if_neg h, Option.bind_some]) ?_
    rw [Int.tmod_eq_emod_of_nonneg hle'.1, Int.tmod_eq_emod_of_nonneg hnn'.1]
    generalize hh : rdOf ByteArray.empty [(⟨#[]⟩ : ByteArray), (⟨#[0]⟩ : ByteArray), (⟨#[255]⟩ : ByteArray), (⟨#[0, 0]⟩ : ByteArray), (⟨#[255, 255]⟩ : ByteArray), (⟨#[128]⟩ : ByteArray), (⟨#[127]⟩ : ByteArray)] (lead % 7) = head
    have hsz : head.size ≤ 2 := by
      have : lead % 7 = 0 ∨ lead % 7 = 1 ∨ lead % 7 = 2 ∨ lead % 7 = 3 ∨ lead % 7 = 4 ∨ lead % 7 = 5 ∨ lead % 7 = 6 := by omega
      rcases this with e | e | e | e | e | e | e <;> (rw [e] at hh; rw [← hh]; decide)
    have hap : (head ++ a).size = head.size + a.size := ByteArray.size_append
    have hmn : 0 ≤ mn ((head.size : Int) + (a.size : Int)) (wrap64 (n % 11)) ∧ mn ((head.size : Int) + (a.size : Int)) (wrap64 (n % 11)) ≤ (head.size : Int) + (a.size : Int) := by
      rw [w64 _ (by omega) (by omega)]; unfold mn; split <;> omega
    refine Ev.congr (fun k => by rw [if_pos (by omega), if_pos (by simp; omega), if_pos (by omega), if_pos hmn.1, if_pos hmn.2, Option.bind_some]) ?_
    refine law_loop _ ?_ (by simp) 3 0 (by omega) (by simp)
    intro x hx
    simp only [List.mem_cons, List.not_mem_nil, or_false] at hx
    rcases hx with rfl | rfl | rfl
    · exact hn
    · omega
    · rw [ByteArray.size_extract]; omega

end Go.Proofs.Ytpiakeejfggocaa.Pure
