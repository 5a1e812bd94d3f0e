/- For all strings and integers, the program's Bits and PutBits agree with the document's definition (no condition). -/
import Derived.Test.YtpiakeejfggocaaQx15
import Derived.Test.YtpiakeejfggocaaBit
import Derived.KernelRfl
set_option linter.unusedVariables false
set_option linter.unusedSimpArgs false
namespace Go.Proofs.Ytpiakeejfggocaa.Pure
open Go Go.RowKit Go.Proofs.Ytpiakeejfggocaa.Q Go.Proofs.YtpiakeejfggocaaW.PrintWords Go.Proofs.YtpiakeejfggocaaW.PrintLast Go.Proofs.YtpiakeejfggocaaW.PrintMore Go.Proofs.Ytpiakeejfggocaa.Num

theorem awake_true : Ev (fun k => certpathlaw03_awake.f k) true :=
  Ev.of certpathlaw03_awake.mono (k := 12) (by
    unfold certpathlaw03_awake.f
    have e1 : prim_PutFlags.f 12 6 = some (strOfNums [5, 96], 0) := by kernel_rfl
    have e2 : prim_PutInteger.f 12 128 = some (strOfNums [0, 128]) := by kernel_rfl
    have e3 : prim_PutInteger.f 12 (-1) = some (strOfNums [255]) := by kernel_rfl
    rw [e1, e2, e3]
    simp [Lib.toList_data, strOfNums])

/-- Are the unused bits of the last byte 0? -/
def spareOK (s : ByteArray) (u : Int) : Bool := decide (u = 0) || (decide (s.size ≠ 0) && decide (bt s ((s.size : Int) - 1) % 2 ^ u.toNat = 0))
def bitsOf (s : ByteArray) : ByteArray × Int × Int :=
  if s.size = 0 then (⟨#[]⟩, 0, 7) else if bt s 0 > 7 then (⟨#[]⟩, 0, 7) else if spareOK (s.extract 1 s.size) (bt s 0) = true then (s.extract 1 s.size, bt s 0, 0) else (⟨#[]⟩, 0, 7)
theorem tail_size (s : ByteArray) (h : s.size ≠ 0) : (s.extract 1 s.size).size = s.size - 1 := by rw [ByteArray.size_extract]; omega
theorem spare_any (s : ByteArray) (u : Int) (hs : s.size ≤ 140737488351232) (h0 : 0 ≤ u) (h7 : u ≤ 7) : prim_spare.f s u = some (spareOK s u) := by
  unfold prim_spare.f spareOK
  by_cases hu : u = 0
  · rw [if_pos hu]; simp [hu]
  · rw [if_neg hu]
    by_cases hz : s.size = 0
    · rw [if_pos ((toList_nil_iff s).2 (by omega))]; simp [hu, hz]
    · have hb := bt_range s ((s.size : Int) - 1)
      obtain ⟨n, rfl⟩ : ∃ n : Nat, u = (n : Int) := ⟨u.toNat, by omega⟩
      rw [if_neg (fun h => hz (by have := (toList_nil_iff s).1 h; omega)), w64 ((s.size : Int) - 1) (by omega) (by omega), if_pos (by omega), if_pos (by omega), u64 _ (by omega) (by omega), if_pos (by omega),
        shl_u8 n (by omega)]
      have hp : 2 ^ n ≤ 128 := Nat.pow_le_pow_right (by omega : 0 < 2) (show n ≤ 7 by omega)
      have hp1 : 0 < 2 ^ n := Nat.two_pow_pos n
      have e : (((2 ^ n : Nat) : Int) - 1) % 256 = 2 ^ n - 1 := by rw [← pow_nat]; omega
      rw [e, and_u8 _ n (by omega) hb.1 (by omega), Int.toNat_natCast]
      have hn : n ≠ 0 := by omega
      by_cases c : bt s ((s.size : Int) - 1) % 2 ^ n = 0 <;> simp [c, hn, hz]
theorem bits_any (s : ByteArray) (hs : s.size ≤ 140737488351232) : prim_Bits.f s = some (bitsOf s) := by
  unfold prim_Bits.f bitsOf
  by_cases hz : s.size = 0
  · rw [if_pos ((toList_nil_iff s).2 (by omega)), if_pos hz]
  · rw [if_neg (fun h => hz (by have := (toList_nil_iff s).1 h; omega)), if_pos (by omega), if_neg hz]
    by_cases h7 : bt s 0 > 7
    · rw [if_pos h7, if_pos h7]
    · have hb := bt_range s 0
      rw [if_neg h7, if_neg h7, if_pos (by omega), w64 (bt s 0) (by omega) (by omega), spare_any _ _ (by rw [tail_size s hz]; omega) hb.1 (by omega), Option.bind_some]
      by_cases c : spareOK (s.extract 1 s.size) (bt s 0) = true
      · rw [if_pos c, if_pos c]
      · rw [if_neg c, if_neg c]

theorem rbits_any (s : ByteArray) (hs : s.size ≤ 140737488351232) : certpathref01_Bits.f s = some (bitsOf s) := by
  unfold certpathref01_Bits.f bitsOf
  by_cases hz : s.size = 0
  · rw [if_pos (by omega), if_pos hz]
  · rw [if_neg (by omega), if_pos (by omega), if_neg hz]
    by_cases h7 : bt s 0 > 7
    · rw [if_pos h7, if_pos h7]
    · have hb := bt_range s 0
      rw [if_neg h7, if_neg h7, w64 (bt s 0) (by omega) (by omega)]
      by_cases h0 : bt s 0 > 0
      · rw [if_pos h0]
        by_cases h1 : (s.size : Int) = 1
        · rw [if_pos h1, if_neg]
          unfold spareOK
          rw [tail_size s hz]
          simp; omega
        · have hl := bt_range s ((s.size : Int) - 1)
          obtain ⟨n, hn⟩ : ∃ n : Nat, bt s 0 = (n : Int) := ⟨(bt s 0).toNat, by omega⟩
          have hp1 : 0 < 2 ^ n := Nat.two_pow_pos n
          rw [if_neg h1, w64 ((s.size : Int) - 1) (by omega) (by omega), if_pos (by omega), if_pos (by omega), if_pos hb.1, hn, shl_i64 n (by omega), if_neg (by omega),
            w64 (bt s _) (by omega) (by omega), Int.tmod_eq_emod_of_nonneg hl.1, if_pos (by omega : (1 : Int) ≤ s.size)]
          have e : spareOK (s.extract 1 s.size) (n : Int) = decide (bt s ((s.size : Int) - 1) % ((2 ^ n : Nat) : Int) = 0) := by
            unfold spareOK
            rw [tail_size s hz, bt_tail s _ (by omega), show (((s.size - 1 : Nat) : Int) - 1 + 1) = (s.size : Int) - 1 by omega, Int.toNat_natCast, pow_nat]
            have a : decide ((n : Int) = 0) = false := by simp; omega
            have b : decide (s.size - 1 ≠ 0) = true := decide_eq_true (by omega)
            rw [a, b]; simp
          rw [e]
          by_cases c : bt s ((s.size : Int) - 1) % ((2 ^ n : Nat) : Int) = 0
          · rw [if_pos c, if_pos (decide_eq_true c)]
          · rw [if_neg c, if_neg (by simpa using c)]
      · rw [if_neg h0, if_pos (by omega), if_pos]
        unfold spareOK
        simp; omega

def putBitsOf (s : ByteArray) (u : Int) : ByteArray × Int :=
  if u < 0 ∨ u > 7 then (⟨#[]⟩, 1) else if spareOK s u = true then (strOfNums [u % 256] ++ s, 0) else (⟨#[]⟩, 7)
theorem putbits_any (s : ByteArray) (u : Int) (hs : s.size ≤ 140737488351232) : Ev (fun k => prim_PutBits.f k s u) (putBitsOf s u) := by
  refine Ev.congr (f := fun k => prim_PutBits.j0 k s u (decide (u < 0 ∨ u > 7))) (fun k => ?_) ?_
  · unfold prim_PutBits.f
    by_cases h : u < 0
    · rw [if_pos h]; simp [h]
    · rw [if_neg h]; simp [h]
  · refine Ev.step (f := fun _ => some (putBitsOf s u)) (fun k => ?_) (Ev.now _)
    simp only [prim_PutBits.j0]
    unfold putBitsOf
    by_cases h : u < 0 ∨ u > 7
    · rw [if_pos (decide_eq_true h), if_pos h]
    · rw [if_neg (by simpa using h), if_neg h, spare_any s u hs (by omega) (by omega), Option.bind_some, Option.bind_some]
      by_cases c : spareOK s u = true
      · rw [if_pos c, if_pos c, if_pos (by rw [strOfNums_size]; simp; omega)]
      · rw [if_neg c, if_neg c]

theorem rputbits_any (s : ByteArray) (u : Int) (hs : s.size ≤ 140737488351232) : Ev (fun k => certpathref01_PutBits.f k s u) (putBitsOf s u) := by
  refine Ev.congr (f := fun k => certpathref01_PutBits.j0 k s u (decide (u < 0 ∨ u > 7))) (fun k => ?_) ?_
  · unfold certpathref01_PutBits.f
    by_cases h : u < 0
    · rw [if_pos h]; simp [h]
    · rw [if_neg h]; simp [h]
  · refine Ev.step (f := fun _ => some (putBitsOf s u)) (fun k => ?_) (Ev.now _)
    simp only [certpathref01_PutBits.j0]
    unfold putBitsOf
    by_cases h : u < 0 ∨ u > 7
    · rw [if_pos (decide_eq_true h), if_pos h]
    · rw [if_neg (by simpa using h), if_neg h]
      have hap : (strOfNums [u % 256]).size + s.size ≤ 9223372036854775807 := by rw [strOfNums_size]; simp; omega
      by_cases h0 : u > 0
      · rw [if_pos h0]
        by_cases hz : (s.size : Int) = 0
        · have hz' : s.size = 0 := by omega
          have hu : u ≠ 0 := by omega
          rw [if_pos hz, if_neg (by simp [spareOK, hz', hu])]
        · have hl := bt_range s ((s.size : Int) - 1)
          obtain ⟨n, hn⟩ : ∃ n : Nat, u = (n : Int) := ⟨u.toNat, by omega⟩
          have hp1 : 0 < 2 ^ n := Nat.two_pow_pos n
          rw [if_neg hz, w64 ((s.size : Int) - 1) (by omega) (by omega), if_pos (by omega), if_pos (by omega), if_pos (by omega), hn, shl_i64 n (by omega), if_neg (by omega),
            w64 (bt s _) (by omega) (by omega), Int.tmod_eq_emod_of_nonneg hl.1, Option.bind_some, ← hn, if_pos hap]
          have e : spareOK s u = decide (bt s ((s.size : Int) - 1) % ((2 ^ n : Nat) : Int) = 0) := by
            unfold spareOK
            rw [hn, Int.toNat_natCast, pow_nat]
            have a : decide ((n : Int) = 0) = false := by simp; omega
            have b : decide (s.size ≠ 0) = true := decide_eq_true (by omega)
            rw [a, b]; simp
          rw [e]
          by_cases c : bt s ((s.size : Int) - 1) % ((2 ^ n : Nat) : Int) = 0
          · rw [if_pos c, if_pos (decide_eq_true c)]
          · rw [if_neg c, if_neg (by simpa using c)]
      · have hu : u = 0 := by omega
        rw [if_neg h0, Option.bind_some, if_pos hap, if_pos (by unfold spareOK; simp [hu])]


theorem law_loop (b : ByteArray) (hb : b.size ≤ 140737488351232) (xs : List Int) (hl : xs.length < 100) : ∀ (d : Nat) (i : Int), 0 ≤ i → (xs.length : Int) - i = d →
    Ev (fun k => certpathlaw03_PrimBits.l0 k b xs xs.length i) true
  | 0, i, h0, hd => by
    refine Ev.step (f := fun k => _) (fun k => by simp only [certpathlaw03_PrimBits.l0]; rw [if_neg (by omega)]) ?_
    exact Ev.bind awake_true (Ev.now _)
  | d + 1, i, h0, hd => by
    refine Ev.step (f := fun k => (prim_PutBits.f k b (rd xs i)).bind fun bt137 => (certpathref01_PutBits.f k b (rd xs i)).bind fun bt139 => if bt137.1.toList = bt139.1.toList then (if bt137.2 = bt139.2 then certpathlaw03_PrimBits.l0 k b xs xs.length (i + 1) else some false) else some false) (fun k => ?_) ?_
    · simp only [certpathlaw03_PrimBits.l0]; rw [if_pos (by omega), if_pos h0, if_pos (by omega), w64 (i + 1) (by omega) (by omega)]
    · refine Ev.bind (putbits_any _ _ hb) ?_
      refine Ev.bind (rputbits_any _ _ hb) ?_
      simp only [if_true]
      exact law_loop b hb xs hl d (i + 1) (by omega) (by omega)

theorem PrimBits : certpathlaw03_PrimBits.Pure := by
  intro c b u s hc hb hu hs
  apply Ev.rounds
  refine Ev.congr (f := fun k => certpathlaw03_PrimBits.j0 k c b u s (decide ((c.size : Int) > 60 ∨ (b.size : Int) > 60))) (fun k => ?_) ?_
  · unfold certpathlaw03_PrimBits.f
    by_cases h : (c.size : Int) > 60
    · rw [if_pos h]; simp [h]
    · rw [if_neg h]; simp [h]
  · by_cases h : (c.size : Int) > 60 ∨ (b.size : Int) > 60
    · refine Ev.step (f := fun k => (certpathlaw03_awake.f k).bind fun t125 => some t125) (fun k => ?_) (Ev.bind awake_true (Ev.now _))
      simp only [certpathlaw03_PrimBits.j0]; rw [if_pos (decide_eq_true h)]
    · refine Ev.step (f := fun k => certpathlaw03_PrimBits.j1 k b u s false) (fun k => ?_) ?_
      · simp only [certpathlaw03_PrimBits.j0]; rw [if_neg (by simpa using h), bits_any c hc, rbits_any c hc]; simp
      · refine Ev.step (f := fun k => certpathlaw03_PrimBits.l0 k b [u, wrap64 (Int.tmod s 9)] ([u, wrap64 (Int.tmod s 9)].length : Nat) 0) (fun k => ?_) (law_loop b hb _ (by simp) 2 0 (by omega) (by simp))
        simp only [certpathlaw03_PrimBits.j1]; rw [if_neg (by decide), Option.bind_some]

end Go.Proofs.Ytpiakeejfggocaa.Pure
