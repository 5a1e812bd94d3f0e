/- For every integer and shift, the program's PutInteger agrees with the document's definition and Integer gives the integer back (no condition). -/
import Derived.Test.YtpiakeejfggocaaQx8
import Derived.Test.YtpiakeejfggocaaNum
import Derived.KernelRfl
set_option linter.unusedVariables false
set_option linter.unusedSimpArgs false
namespace Go.Proofs.Ytpiakeejfggocaa.Pure
open Go Go.RowKit Go.Proofs.Ytpiakeejfggocaa.Q Go.Proofs.YtpiakeejfggocaaW.PrintWords Go.Proofs.YtpiakeejfggocaaW.PrintLast Go.Proofs.YtpiakeejfggocaaW.PrintMore Go.Proofs.Ytpiakeejfggocaa.Num

theorem awake_true : Ev (fun k => certpathlaw03_awake.f k) true :=
  Ev.of certpathlaw03_awake.mono (k := 12) (by
    unfold certpathlaw03_awake.f
    have e1 : prim_PutFlags.f 12 6 = some (strOfNums [5, 96], 0) := by kernel_rfl
    have e2 : prim_PutInteger.f 12 128 = some (strOfNums [0, 128]) := by kernel_rfl
    have e3 : prim_PutInteger.f 12 (-1) = some (strOfNums [255]) := by kernel_rfl
    rw [e1, e2, e3]
    simp [Lib.toList_data, strOfNums])

/-- Are the contents of an integer refused? -/
def bad (s : ByteArray) : Bool := decide (s.size = 0) || (decide (1 < s.size) && ((decide (bt s 0 = 0) && decide (bt s 1 < 128)) || (decide (bt s 0 = 255) && decide (bt s 1 ≥ 128))))
def sgn (s : ByteArray) : Int := if bt s 0 ≥ 128 then -1 else 0
def intOf (s : ByteArray) : Int × Int := if bad s = true then (0, 7) else if s.size > 8 then (0, 1) else (wrap64 (be (sgn s) (bytesOf s)), 0)

theorem int_door (s : ByteArray) (k : Nat) : prim_Integer.f k s = prim_Integer.j0 k s (bad s) := by
  unfold prim_Integer.f bad
  by_cases h0 : s.size = 0
  · rw [if_pos ((toList_nil_iff s).2 (by omega))]; simp [h0]
  · rw [if_neg (fun h => h0 (by have := (toList_nil_iff s).1 h; omega))]
    by_cases h1 : 1 < s.size
    · rw [if_pos (by omega), if_pos (by omega), if_pos (by omega : (1 : Int) < s.size)]
      by_cases h2 : bt s 0 = 0
      · by_cases h3 : bt s 1 < 128 <;> simp [h0, h1, h2, h3]
      · by_cases h4 : bt s 0 = 255 <;> simp [h0, h1, h2, h4]
        omega
    · rw [if_neg (by omega)]; simp [h0, h1]
theorem int_loop (s : ByteArray) (hs : s.size ≤ 140737488351232) : ∀ (d : Nat) (i : Nat) (x : Int), (s.size : Int) - 1 - i = d →
    Ev (fun k => prim_Integer.l0 k s (wrap64 x) ((s.size : Int) - 1) i) (wrap64 (be x ((bytesOf s).drop (i + 1))), 0)
  | 0, i, x, hd => by
    refine Ev.step (f := fun k => some (wrap64 x, 0)) (fun k => by simp only [prim_Integer.l0]; rw [if_neg (by omega)]) ?_
    rw [List.drop_of_length_le (by rw [bytesOf_length]; omega), be_nil]
    exact Ev.now _
  | d + 1, i, x, hd => by
    have hb := bt_range s ((i : Int) + 1)
    have e1 : wrap64 ((i : Int) + 1) = (i : Int) + 1 := w64 _ (by omega) (by omega)
    refine Ev.step (f := fun k => prim_Integer.l0 k s (wrap64 (x * 256 + bt s ((i : Int) + 1))) ((s.size : Int) - 1) ((i + 1 : Nat) : Int)) (fun k => ?_) ?_
    · simp only [prim_Integer.l0]
      rw [if_pos (by omega), e1, if_pos (by omega), if_pos (by omega), w64 (bt s _) (by omega) (by omega), or_i64 _ _ hb.1 (by omega)]
      rw [wrap64_congr (a := wrap64 x * 256 + bt s ((i : Int) + 1)) (b := x * 256 + bt s ((i : Int) + 1)) (by have := wrap64_mod x; omega)]
      rfl
    · have := int_loop s hs d (i + 1) (x * 256 + bt s ((i : Int) + 1)) (by omega)
      rw [drop_bt s (i + 1) (by omega), be_cons]
      exact this
theorem int_any (s : ByteArray) (hs : s.size ≤ 140737488351232) : Ev (fun k => prim_Integer.f k s) (intOf s) := by
  refine Ev.congr (int_door s) ?_
  unfold intOf
  by_cases h : bad s = true
  · rw [if_pos h, h]
    exact Ev.step (f := fun _ => some (0, 7)) (fun k => by simp only [prim_Integer.j0]; rw [if_pos trivial]) (Ev.now _)
  · have hz : s.size ≠ 0 := fun e => h (by unfold bad; simp [e])
    rw [if_neg h, (by simpa using h : bad s = false)]
    by_cases h8 : s.size > 8
    · rw [if_pos h8]
      exact Ev.step (f := fun _ => some (0, 1)) (fun k => by simp only [prim_Integer.j0]; rw [if_neg (by decide), if_pos (by omega)]) (Ev.now _)
    · rw [if_neg h8]
      have hb := bt_range s 0
      refine Ev.step (f := fun k => prim_Integer.l0 k s (wrap64 (sgn s * 256 + bt s 0)) ((s.size : Int) - 1) (0 : Nat)) (fun k => ?_) ?_
      · simp only [prim_Integer.j0]
        rw [if_neg (by decide), if_neg (by omega), if_pos (by omega), w64 ((s.size : Int) - 1) (by omega) (by omega), i8w]
        congr 2
        unfold sgn; split <;> omega
      · have := int_loop s hs (s.size - 1) 0 (sgn s * 256 + bt s 0) (by omega)
        have e : bytesOf s = bt s 0 :: (bytesOf s).drop (0 + 1) := drop_bt s 0 (by omega)
        rw [← be_cons, ← e] at this
        exact this

theorem put_loop (v : Int) (n : Nat) (hn : n ≤ 8) : ∀ (d i : Nat) (acc : List Int), i + d = n → acc ++ enc d v = enc n v →
    Ev (fun k => prim_PutInteger.l1 k v n acc n i) (strOfNums (enc n v))
  | 0, i, acc, hd, ha => by
    refine Ev.step (f := fun k => some (strOfNums acc)) (fun k => by simp only [prim_PutInteger.l1]; rw [if_neg (by omega)]) ?_
    rw [← ha]; simp only [enc, List.append_nil]
    exact Ev.now _
  | d + 1, i, acc, hd, ha => by
    have hl : acc.length ≤ 8 := by
      have := congrArg List.length ha
      rw [List.length_append, enc_length, enc_length] at this
      omega
    refine Ev.step (f := fun k => prim_PutInteger.l1 k v n (acc ++ [v / 256 ^ d % 256]) n ((i + 1 : Nat) : Int)) (fun k => ?_) ?_
    · simp only [prim_PutInteger.l1]
      have e : IntKind.u64.wrap (8 * IntKind.u64.wrap (wrap64 (wrap64 ((n : Int) - 1) - i))) = ((8 * d : Nat) : Int) := by
        rw [w64 ((n : Int) - 1) (by omega) (by omega), w64 _ (by omega) (by omega), u64 ((n : Int) - 1 - i) (by omega) (by omega), u64 _ (by omega) (by omega)]; omega
      rw [if_pos (by omega), e, if_pos (by omega), if_pos (by omega), shr_i64 v d (by omega), w64 ((i : Int) + 1) (by omega) (by omega)]
      rfl
    · refine put_loop v n hn d (i + 1) _ (by omega) ?_
      rw [List.append_assoc, List.singleton_append, ← enc_cons]; exact ha
theorem put_count (v : Int) (n : Nat) (hn : n ≤ 8) (hf : fits n v) (hlt : ∀ m, 1 ≤ m → m < n → ¬ fits m v) : ∀ (d j : Nat), j + 1 + d = n →
    Ev (fun k => prim_PutInteger.l0 k v ((j + 1 : Nat) : Int) (v / 256 ^ j)) (strOfNums (enc n v))
  | 0, j, hd => by
    obtain rfl : n = j + 1 := by omega
    rw [fits_succ] at hf
    refine Ev.step (f := fun k => prim_PutInteger.l1 k v ((j + 1 : Nat) : Int) [] ((j + 1 : Nat) : Int) ((0 : Nat) : Int)) (fun k => ?_) (put_loop v (j + 1) hn (j + 1) 0 [] (by omega) rfl)
    simp only [prim_PutInteger.l0]; rw [if_neg (by omega), if_neg (by omega)]; rfl
  | d + 1, j, hd => by
    have hnf := hlt (j + 1) (by omega) (by omega)
    rw [fits_succ] at hnf
    refine Ev.step (f := fun k => prim_PutInteger.l0 k v ((j + 1 + 1 : Nat) : Int) (v / 256 ^ (j + 1))) (fun k => ?_) (put_count v n hn hf hlt d (j + 1) (by omega))
    simp only [prim_PutInteger.l0]
    rw [div_pow', w64 _ (by omega) (by omega)]
    by_cases h : v / 256 ^ j < -128
    · rw [if_pos h]; rfl
    · rw [if_neg h, if_pos (by omega)]; rfl
theorem put_any (v : Int) (n : Nat) (h1 : 1 ≤ n) (hn : n ≤ 8) (hf : fits n v) (hlt : ∀ m, 1 ≤ m → m < n → ¬ fits m v) :
    Ev (fun k => prim_PutInteger.f k v) (strOfNums (enc n v)) := by
  have := put_count v n hn hf hlt (n - 1) 0 (by omega)
  refine Ev.congr (fun k => ?_) this
  unfold prim_PutInteger.f
  simp

theorem rput_strip (v : Int) (n : Nat) (h1 : 1 ≤ n) (hf : fits n v) (hlt : ∀ m, 1 ≤ m → m < n → ¬ fits m v) : ∀ (d : Nat),
    Ev (fun k => certpathref01_PutInteger.l1 k (enc (n + d) v)) (strOfNums (enc n v))
  | 0 => by
    refine Ev.step (f := fun k => some (strOfNums (enc n v))) (fun k => ?_) (Ev.now _)
    simp only [certpathref01_PutInteger.l1, Nat.add_zero, enc_length]
    by_cases h2 : n = 1
    · rw [if_neg (by omega)]
    · obtain ⟨j, rfl⟩ : ∃ j, n = j + 2 := ⟨n - 2, by omega⟩
      have hnf := hlt (j + 1) (by omega) (by omega)
      rw [fits_succ] at hf hnf
      rw [← div_pow' v j] at hf
      have e0 : rd (enc (j + 2) v) 0 = v / 256 ^ j / 256 % 256 := by rw [enc_cons, ← div_pow']; rfl
      have e1 : rd (enc (j + 2) v) 1 = v / 256 ^ j % 256 := by rw [enc_cons, enc_cons]; rfl
      rw [e0, e1, if_pos (by omega), if_pos (by omega)]
      by_cases c0 : v / 256 ^ j / 256 % 256 = 0
      · rw [if_pos c0, if_pos (by omega), if_neg (by omega), if_neg (by omega)]
      · rw [if_neg c0]
        by_cases c1 : v / 256 ^ j / 256 % 256 = 255
        · rw [if_pos c1, if_pos (by omega), if_neg (by omega)]
        · rw [if_neg c1]
  | d + 1 => by
    have hup : ∀ e, fits (n + e) v := by
      intro e
      induction e with
      | zero => exact hf
      | succ e ih =>
        obtain ⟨j, hj⟩ : ∃ j, n + e = j + 1 := ⟨n + e - 1, by omega⟩
        rw [show n + (e + 1) = j + 2 by omega]
        exact fits_up j v (hj ▸ ih)
    refine Ev.step (f := fun k => certpathref01_PutInteger.l1 k (enc (n + d) v)) (fun k => ?_) (rput_strip v n h1 hf hlt d)
    obtain ⟨j, hj⟩ : ∃ j, n + d = j + 1 := ⟨n + d - 1, by omega⟩
    have hfj := hup d
    rw [show n + (d + 1) = j + 2 by omega, hj]
    rw [hj, fits_succ] at hfj
    have e0 : rd (enc (j + 2) v) 0 = v / 256 ^ j / 256 % 256 := by rw [enc_cons, ← div_pow']; rfl
    have e1 : rd (enc (j + 2) v) 1 = v / 256 ^ j % 256 := by rw [enc_cons, enc_cons]; rfl
    have e2 : (enc (j + 2) v).drop (1 : Int).toNat = enc (j + 1) v := by rw [enc_cons]; rfl
    simp only [certpathref01_PutInteger.l1, enc_length]
    rw [e0, e1, e2, if_pos (by omega), if_pos (by omega)]
    by_cases c0 : v / 256 ^ j / 256 % 256 = 0
    · rw [if_pos c0, if_pos (by omega), if_pos (by omega), if_pos (by omega)]
    · rw [if_neg c0, if_pos (by omega), if_pos (by omega), if_pos (by omega), if_pos (by omega)]
theorem rput_loop (v : Int) : ∀ (d : Nat) (acc : List Int), d ≤ 8 → acc ++ enc d v = enc 8 v → ∀ r, Ev (fun k => certpathref01_PutInteger.l1 k (enc 8 v)) r →
    Ev (fun k => certpathref01_PutInteger.l0 k (IntKind.u64.wrap v) acc ((d : Int) - 1)) r
  | 0, acc, hd, ha, r, hr => by
    refine Ev.step (f := fun k => certpathref01_PutInteger.l1 k (enc 8 v)) (fun k => ?_) hr
    simp only [certpathref01_PutInteger.l0]
    rw [if_neg (by omega), ← ha]; simp only [enc, List.append_nil]
  | d + 1, acc, hd, ha, r, hr => by
    have hl : acc.length ≤ 8 := by
      have := congrArg List.length ha
      rw [List.length_append, enc_length, enc_length] at this
      omega
    refine Ev.step (f := fun k => certpathref01_PutInteger.l0 k (IntKind.u64.wrap v) (acc ++ [v / 256 ^ d % 256]) ((d : Int) - 1)) (fun k => ?_) (rput_loop v d _ (by omega) ?_ r hr)
    · simp only [certpathref01_PutInteger.l0]
      have e : wrap64 (8 * (((d + 1 : Nat) : Int) - 1)) = ((8 * d : Nat) : Int) := by rw [w64 _ (by omega) (by omega)]; omega
      rw [if_pos (by omega), e, if_pos (by omega), if_pos (by omega), shr_u64 _ d (by omega), u64w, u64_byte v d (by omega), w64 (((d + 1 : Nat) : Int) - 1 - 1) (by omega) (by omega)]
      congr 1; omega
    · rw [List.append_assoc, List.singleton_append, ← enc_cons]; exact ha
theorem rput_any (v : Int) (n : Nat) (h1 : 1 ≤ n) (hn : n ≤ 8) (hf : fits n v) (hlt : ∀ m, 1 ≤ m → m < n → ¬ fits m v) :
    Ev (fun k => certpathref01_PutInteger.f k v) (strOfNums (enc n v)) := by
  have := rput_strip v n h1 hf hlt (8 - n)
  rw [show n + (8 - n) = 8 by omega] at this
  exact rput_loop v 8 [] (by omega) rfl _ this

theorem back_int (v : Int) (n : Nat) (h1 : 1 ≤ n) (hn : n ≤ 8) (hf : fits n v) (hlt : ∀ m, 1 ≤ m → m < n → ¬ fits m v) (h0 : -9223372036854775808 ≤ v) (h2 : v ≤ 9223372036854775807) :
    intOf (strOfNums (enc n v)) = (v, 0) := by
  have hsz : (strOfNums (enc n v)).size = n := by rw [strOfNums_size, enc_length]
  have hby : bytesOf (strOfNums (enc n v)) = enc n v := bytes_strOf _ (enc_byte n v)
  obtain ⟨j, rfl⟩ : ∃ j, n = j + 1 := ⟨n - 1, by omega⟩
  have b0 : bt (strOfNums (enc (j + 1) v)) 0 = v / 256 ^ j % 256 := by rw [← rd_bytesOf, hby, enc_cons]; rfl
  rw [fits_succ] at hf
  have hsg : sgn (strOfNums (enc (j + 1) v)) = v / 256 ^ (j + 1) := by
    unfold sgn; rw [b0, ← div_pow']; split <;> omega
  have hbad : bad (strOfNums (enc (j + 1) v)) = false := by
    unfold bad
    rw [hsz, b0]
    by_cases hj : j = 0
    · subst hj; simp
    · obtain ⟨i, rfl⟩ : ∃ i, j = i + 1 := ⟨j - 1, by omega⟩
      have b1 : bt (strOfNums (enc (i + 1 + 1) v)) 1 = v / 256 ^ i % 256 := by rw [← rd_bytesOf, hby, enc_cons, enc_cons]; rfl
      have hnf := hlt (i + 1) (by omega) (by omega)
      rw [fits_succ] at hnf
      rw [← div_pow' v i] at hf ⊢
      rw [b1]
      simp only [Bool.or_eq_false_iff, Bool.and_eq_false_iff, decide_eq_false_iff_not]
      omega
  unfold intOf
  rw [hbad, if_neg (by decide), hsz, if_neg (by omega), hby, hsg, be_enc (j + 1) _ v rfl, w64 v h0 h2]


theorem law_loop (xs : List Int) (hx : ∀ x ∈ xs, -9223372036854775808 ≤ x ∧ x ≤ 9223372036854775807) (hl : xs.length < 100) : ∀ (d : Nat) (i : Int), 0 ≤ i → (xs.length : Int) - i = d →
    Ev (fun k => certpathlaw03_PrimPutInteger.l0 k xs xs.length i) true
  | 0, i, h0, hd => by
    refine Ev.step (f := fun k => _) (fun k => by simp only [certpathlaw03_PrimPutInteger.l0]; rw [if_neg (by omega)]) ?_
    exact Ev.bind awake_true (Ev.now _)
  | d + 1, i, h0, hd => by
    have hs : -9223372036854775808 ≤ rd xs i ∧ rd xs i ≤ 9223372036854775807 := by
      refine hx _ ?_
      unfold rd
      rw [List.getD_eq_getElem?_getD, List.getElem?_eq_getElem (by omega)]
      exact List.getElem_mem _
    obtain ⟨n, h1, h8, hf, hlt⟩ := width (rd xs i) hs.1 hs.2
    refine Ev.step (f := fun k => (prim_PutInteger.f k (rd xs i)).bind fun t137 => (prim_Integer.f k t137).bind fun bt138 => (certpathref01_PutInteger.f k (rd xs i)).bind fun t140 => if t137.toList = t140.toList then (if bt138.2 = 0 then (if bt138.1 = rd xs i then certpathlaw03_PrimPutInteger.l0 k xs xs.length (i + 1) else some false) else some false) else some false) (fun k => ?_) ?_
    · simp only [certpathlaw03_PrimPutInteger.l0]; rw [if_pos (by omega), if_pos h0, if_pos (by omega), w64 (i + 1) (by omega) (by omega)]
    · refine Ev.bind (put_any _ n h1 h8 hf hlt) ?_
      refine Ev.bind (int_any _ (by rw [strOfNums_size, enc_length]; omega)) ?_
      refine Ev.bind (rput_any _ n h1 h8 hf hlt) ?_
      rw [back_int _ n h1 h8 hf hlt hs.1 hs.2]
      simp only [if_true]
      exact law_loop xs hx hl d (i + 1) (by omega) (by omega)

theorem PrimPutInteger : certpathlaw03_PrimPutInteger.Pure := by
  intro v n hv hn
  have hv' : -9223372036854775808 ≤ v ∧ v ≤ 9223372036854775807 := by simp [Lit.wf, IntKind.min, IntKind.max, IntKind.bits, IntKind.signed] at hv; omega
  have hn' : 0 ≤ n ∧ n ≤ 255 := by simp [Lit.wf, IntKind.min, IntKind.max, IntKind.bits, IntKind.signed] at hn; omega
  apply Ev.rounds
  unfold certpathlaw03_PrimPutInteger.f
  rw [Int.tmod_eq_emod_of_nonneg hn'.1, Int.tmod_eq_emod_of_nonneg hn'.1]
  refine Ev.congr (fun k => by rw [if_pos (by omega), if_pos (by omega), Option.bind_some]) ?_
  refine law_loop _ ?_ (by simp) 4 0 (by omega) (by simp)
  intro x hx
  simp only [List.mem_cons, List.not_mem_nil, or_false] at hx
  rcases hx with rfl | rfl | rfl | rfl
  · exact hv'
  · unfold shr
    have hp : (0 : Int) < 2 ^ min (n % 64).toNat IntKind.i64.bits := Int.pow_pos (by omega)
    generalize (2 : Int) ^ min (n % 64).toNat IntKind.i64.bits = p at hp
    constructor
    · rw [Int.le_ediv_iff_mul_le hp]
      have : -9223372036854775808 * p ≤ -9223372036854775808 * 1 := by
        have := Int.mul_le_mul_of_nonneg_left (show 1 ≤ p by omega) (show (0 : Int) ≤ 9223372036854775808 by omega)
        omega
      omega
    · by_cases h : v < 0
      · have := Int.ediv_neg_of_neg_of_pos h hp; omega
      · have := Int.ediv_le_self p (show 0 ≤ v by omega); omega
  · exact wrap64_range _
  · unfold shl; rw [i64w]; exact wrap64_range _

end Go.Proofs.Ytpiakeejfggocaa.Pure
