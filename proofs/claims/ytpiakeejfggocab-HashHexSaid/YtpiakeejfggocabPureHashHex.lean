/- For all strings, the program's Hex and Unhex agree with the definition and invert each other (no condition). -/
import Derived.Test.YtpiakeejfggocabQx15
import Derived.Test.YtpiakeejfggocabAwake
set_option linter.unusedVariables false
set_option linter.unusedSimpArgs false
namespace Go.Proofs.Ytpiakeejfggocab.Pure
open Go Go.RowKit Go.Proofs.Ytpiakeejfggocab.Q Go.Proofs.YtpiakeejfggocabW.PrintWords Go.Proofs.YtpiakeejfggocabW.PrintLast Go.Proofs.YtpiakeejfggocabW.PrintMore Go.Proofs.Ytpiakeejfggocab.Num Go.Proofs.Ytpiakeejfggocab.Strm Go.Proofs.Ytpiakeejfggocab.Hand

def hexd (v : Int) : Int := bt (⟨#[48, 49, 50, 51, 52, 53, 54, 55, 56, 57, 97, 98, 99, 100, 101, 102]⟩ : ByteArray) v
def hexL (m : List Int) : List Int := m.flatMap fun x => [hexd (x / 16), hexd (x % 16)]
def hexS (s : ByteArray) : ByteArray := strOfNums (hexL (bytesOf s))
theorem hexL_len (m : List Int) : (hexL m).length = 2 * m.length := by
  induction m with
  | nil => rfl
  | cons a m ih => unfold hexL at *; rw [List.flatMap_cons, List.length_append, ih]; simp; omega
theorem hexL_snoc (m : List Int) (x : Int) : hexL (m ++ [x]) = hexL m ++ [hexd (x / 16), hexd (x % 16)] := by unfold hexL; rw [List.flatMap_append]; simp
theorem bytes_take (s : ByteArray) (k : Nat) (hk : k < s.size) : (bytesOf s).take (k + 1) = (bytesOf s).take k ++ [bt s k] := by
  have h : k < (bytesOf s).length := by rw [bytesOf_length]; exact hk
  rw [List.take_succ_eq_append_getElem h]
  congr 2
  rw [← rd_bytesOf]; unfold rd; rw [Int.toNat_natCast, List.getD_eq_getElem?_getD, List.getElem?_eq_getElem h, Option.getD_some]
theorem hex_ev (s : ByteArray) (hs : s.size ≤ 1000000) : ∀ (d k : Nat), k + d = s.size → Ev (fun n => hash_Hex.l0 n s (hexL ((bytesOf s).take k)) (k : Int)) (hexS s)
  | 0, k, hk => by
    refine Ev.step (f := fun _ => some (hexS s)) (fun n => ?_) (Ev.now _)
    simp only [hash_Hex.l0]
    rw [if_neg (by omega), List.take_of_length_le (by rw [bytesOf_length]; omega)]
    rfl
  | d + 1, k, hk => by
    have hr := bt_range s k
    have ha : Go.bits .and .u8 (bt s k) 15 = bt s k % 16 := and_u8 (bt s k) 4 (by decide) hr.1 (by omega)
    refine Ev.step (f := fun n => hash_Hex.l0 n s (hexL ((bytesOf s).take (k + 1))) ((k + 1 : Nat) : Int)) (fun n => ?_) (hex_ev s hs d (k + 1) (by omega))
    simp only [hash_Hex.l0]
    rw [ha, if_pos (by omega), if_pos (by omega), if_pos (by omega), if_pos (by omega), if_pos (by omega), if_pos (by omega), Option.bind_some, if_pos (by rw [hexL_len, List.length_take, bytesOf_length]; simp; omega), w64 ((k : Int) + 1) (by omega) (by omega), bytes_take s k (by omega), hexL_snoc]
    rfl
theorem hex_any (s : ByteArray) (hs : s.size ≤ 1000000) : Ev (fun n => hash_Hex.f n s) (hexS s) := hex_ev s hs s.size 0 (by omega)
theorem rhex_ev (s : ByteArray) (hs : s.size ≤ 1000000) : ∀ (d k : Nat), k + d = s.size → Ev (fun n => certpathref01_Hex.l0 n s (hexL ((bytesOf s).take k)) (k : Int)) (hexS s)
  | 0, k, hk => by
    refine Ev.step (f := fun _ => some (hexS s)) (fun n => ?_) (Ev.now _)
    simp only [certpathref01_Hex.l0]
    rw [if_neg (by omega), List.take_of_length_le (by rw [bytesOf_length]; omega)]
    rfl
  | d + 1, k, hk => by
    have hr := bt_range s k
    have e1 : Int.tdiv (bt s k) 16 % 256 = bt s k / 16 := by rw [Int.tdiv_eq_ediv_of_nonneg hr.1]; omega
    have e2 : Int.tmod (bt s k) 16 = bt s k % 16 := Int.tmod_eq_emod_of_nonneg hr.1
    refine Ev.step (f := fun n => certpathref01_Hex.l0 n s (hexL ((bytesOf s).take (k + 1))) ((k + 1 : Nat) : Int)) (fun n => ?_) (rhex_ev s hs d (k + 1) (by omega))
    simp only [certpathref01_Hex.l0]
    rw [e1, e2, if_pos (by omega), if_pos (by omega), if_pos (by omega), if_pos (by omega), if_pos (by omega), if_pos (by omega), Option.bind_some, if_pos (by rw [hexL_len, List.length_take, bytesOf_length]; simp; omega), w64 ((k : Int) + 1) (by omega) (by omega), bytes_take s k (by omega), hexL_snoc]
    rfl
theorem rhex_any (s : ByteArray) (hs : s.size ≤ 1000000) : Ev (fun n => certpathref01_Hex.f n s) (hexS s) := by
  unfold certpathref01_Hex.f
  refine Ev.congr (fun k => by rw [w64 (2 * (s.size : Int)) (by omega) (by omega), if_pos (by omega), if_pos (by omega)]; rfl) (rhex_ev s hs s.size 0 (by omega))
/-! ### Back -/
def nib (c : Int) : Int := if 48 ≤ c ∧ c ≤ 57 then c - 48 else if 97 ≤ c ∧ c ≤ 102 then c - 87 else -1
theorem nib_j (c : Int) (hc : 0 ≤ c ∧ c ≤ 255) : Ev (fun n => hash_nibble.f n c) (nib c) := by
  unfold hash_nibble.f nib
  by_cases h1 : c ≥ 48
  · refine Ev.congr (fun n => by rw [if_pos h1]) ?_
    by_cases h2 : c ≤ 57
    · refine Ev.step (f := fun _ => some (c - 48)) (fun n => by simp only [hash_nibble.j0]; rw [decide_eq_true h2, if_pos rfl]; congr 1; omega) ?_
      rw [if_pos ⟨by omega, h2⟩]; exact Ev.now _
    · rw [if_neg (by omega)]
      by_cases h3 : c ≥ 97
      · by_cases h4 : c ≤ 102
        · refine Ev.step (f := fun _ => some (c - 87)) (fun n => by simp only [hash_nibble.j0]; rw [decide_eq_false h2, if_neg (by decide), if_pos h3, if_pos h4]; congr 1; omega) ?_
          rw [if_pos ⟨by omega, h4⟩]; exact Ev.now _
        · refine Ev.step (f := fun _ => some (-1)) (fun n => by simp only [hash_nibble.j0]; rw [decide_eq_false h2, if_neg (by decide), if_pos h3, if_neg h4]) ?_
          rw [if_neg (by omega)]; exact Ev.now _
      · refine Ev.step (f := fun _ => some (-1)) (fun n => by simp only [hash_nibble.j0]; rw [decide_eq_false h2, if_neg (by decide), if_neg h3]) ?_
        rw [if_neg (by omega)]; exact Ev.now _
  · refine Ev.congr (fun n => by rw [if_neg h1]) ?_
    refine Ev.step (f := fun _ => some (-1)) (fun n => by simp only [hash_nibble.j0]; rw [if_neg (by decide), if_neg (by omega)]) ?_
    rw [if_neg (by omega), if_neg (by omega)]; exact Ev.now _
theorem rnib_j (c : Int) (hc : 0 ≤ c ∧ c ≤ 255) : Ev (fun n => certpathref01_nibble.f n c) (nib c) := by
  unfold certpathref01_nibble.f nib
  by_cases h1 : c ≥ 48
  · refine Ev.congr (fun n => by rw [if_pos h1]) ?_
    by_cases h2 : c ≤ 57
    · refine Ev.step (f := fun _ => some (c - 48)) (fun n => by simp only [certpathref01_nibble.j0]; rw [decide_eq_true h2, if_pos rfl]; congr 1; omega) ?_
      rw [if_pos ⟨by omega, h2⟩]; exact Ev.now _
    · rw [if_neg (by omega)]
      by_cases h3 : c ≥ 97
      · by_cases h4 : c ≤ 102
        · refine Ev.step (f := fun _ => some (c - 87)) (fun n => by simp only [certpathref01_nibble.j0]; rw [decide_eq_false h2, if_neg (by decide), if_pos h3, if_pos h4]; congr 1; omega) ?_
          rw [if_pos ⟨by omega, h4⟩]; exact Ev.now _
        · refine Ev.step (f := fun _ => some (-1)) (fun n => by simp only [certpathref01_nibble.j0]; rw [decide_eq_false h2, if_neg (by decide), if_pos h3, if_neg h4]) ?_
          rw [if_neg (by omega)]; exact Ev.now _
      · refine Ev.step (f := fun _ => some (-1)) (fun n => by simp only [certpathref01_nibble.j0]; rw [decide_eq_false h2, if_neg (by decide), if_neg h3]) ?_
        rw [if_neg (by omega)]; exact Ev.now _
  · refine Ev.congr (fun n => by rw [if_neg h1]) ?_
    refine Ev.step (f := fun _ => some (-1)) (fun n => by simp only [certpathref01_nibble.j0]; rw [if_neg (by decide), if_neg (by omega)]) ?_
    rw [if_neg (by omega), if_neg (by omega)]; exact Ev.now _
theorem nib_range (c : Int) : nib c = -1 ∨ 0 ≤ nib c ∧ nib c ≤ 15 := by unfold nib; split <;> (try split) <;> omega
def unh : List Int → List Int → ByteArray × Bool
  | acc, a :: b :: r => if nib a < 0 then (⟨#[]⟩, false) else if nib b < 0 then (⟨#[]⟩, false) else unh (acc ++ [16 * nib a + nib b]) r
  | acc, _ => (strOfNums acc, true)
def unhexS (s : ByteArray) : ByteArray × Bool := if (s.size : Int) % 2 = 0 then unh [] (bytesOf s) else (⟨#[]⟩, false)
theorem drop_two (s : ByteArray) (i : Nat) (h : i + 1 < s.size) : (bytesOf s).drop i = bt s i :: bt s (i + 1) :: (bytesOf s).drop (i + 2) := by
  have h1 : i + 1 < (bytesOf s).length := by rw [bytesOf_length]; exact h
  have g : ∀ j : Nat, (hj : j < (bytesOf s).length) → (bytesOf s)[j] = bt s (j : Int) := fun j hj => by
    rw [← rd_bytesOf]; unfold rd; rw [Int.toNat_natCast, List.getD_eq_getElem?_getD, List.getElem?_eq_getElem hj, Option.getD_some]
  rw [List.drop_eq_getElem_cons (by omega), List.drop_eq_getElem_cons h1, g, g]
  rfl
theorem or_nib (x y : Int) (hx : 0 ≤ x ∧ x ≤ 15) (hy : 0 ≤ y ∧ y ≤ 15) : Go.bits .or .i64 (wrap64 (x * 16)) y % 256 = 16 * x + y := by
  have hx' : x = 0 ∨ x = 1 ∨ x = 2 ∨ x = 3 ∨ x = 4 ∨ x = 5 ∨ x = 6 ∨ x = 7 ∨ x = 8 ∨ x = 9 ∨ x = 10 ∨ x = 11 ∨ x = 12 ∨ x = 13 ∨ x = 14 ∨ x = 15 := by omega
  have hy' : y = 0 ∨ y = 1 ∨ y = 2 ∨ y = 3 ∨ y = 4 ∨ y = 5 ∨ y = 6 ∨ y = 7 ∨ y = 8 ∨ y = 9 ∨ y = 10 ∨ y = 11 ∨ y = 12 ∨ y = 13 ∨ y = 14 ∨ y = 15 := by omega
  rcases hx' with rfl | rfl | rfl | rfl | rfl | rfl | rfl | rfl | rfl | rfl | rfl | rfl | rfl | rfl | rfl | rfl <;> rcases hy' with rfl | rfl | rfl | rfl | rfl | rfl | rfl | rfl | rfl | rfl | rfl | rfl | rfl | rfl | rfl | rfl <;> decide +kernel
theorem unhex_ev (s : ByteArray) (hs : s.size ≤ 1000000) : ∀ (d i : Nat) (acc : List Int), i + 2 * d = s.size → acc.length ≤ i → Ev (fun n => hash_Unhex.l0 n s acc (i : Int)) (unh acc ((bytesOf s).drop i))
  | 0, i, acc, hi, ha => by
    refine Ev.step (f := fun _ => some (strOfNums acc, true)) (fun n => by simp only [hash_Unhex.l0]; rw [if_neg (by omega)]) ?_
    rw [List.drop_eq_nil_of_le (by rw [bytesOf_length]; omega)]
    exact Ev.now _
  | d + 1, i, acc, hi, ha => by
    have e1 : wrap64 ((i : Int) + 1) = (i : Int) + 1 := w64 _ (by omega) (by omega)
    have e2 : wrap64 ((i : Int) + 2) = ((i + 2 : Nat) : Int) := w64 _ (by omega) (by omega)
    refine Ev.step (f := fun n => (hash_nibble.f n (bt s i)).bind fun a => (hash_nibble.f n (bt s ((i : Int) + 1))).bind fun b => if a < 0 then some (⟨#[]⟩, false) else if b < 0 then some (⟨#[]⟩, false) else hash_Unhex.l0 n s (acc ++ [(Go.bits .or .i64 (wrap64 (a * 16)) b) % 256]) ((i + 2 : Nat) : Int)) (fun n => ?_) ?_
    · simp only [hash_Unhex.l0]
      have p1 : 0 ≤ (i : Int) + 1 := by omega
      have p2 : (i : Int) + 1 < (s.size : Int) := by omega
      have p3 : acc.length < 140737488355328 := by omega
      rw [e1, e2, if_pos (by omega), if_pos (by omega)]
      simp only [p1, p2, p3, if_true]
    · refine Ev.bind (nib_j _ (bt_range _ _)) (Ev.bind (nib_j _ (bt_range _ _)) ?_)
      rw [drop_two s i (by omega)]
      unfold unh
      by_cases h1 : nib (bt s i) < 0
      · rw [if_pos h1]; exact Ev.congr (fun n => by rw [if_pos h1]) (Ev.now _)
      · by_cases h2 : nib (bt s ((i : Int) + 1)) < 0
        · rw [if_neg h1, if_pos h2]; exact Ev.congr (fun n => by rw [if_neg h1, if_pos h2]) (Ev.now _)
        · rw [if_neg h1, if_neg h2]
          have r1 := nib_range (bt s i)
          have r2 := nib_range (bt s ((i : Int) + 1))
          refine Ev.congr (fun n => by rw [if_neg h1, if_neg h2, or_nib _ _ (by omega) (by omega)]) (unhex_ev s hs d (i + 2) _ (by omega) (by simp; omega))
theorem runhex_ev (s : ByteArray) (hs : s.size ≤ 1000000) : ∀ (d i : Nat) (acc : List Int), i + 2 * d = s.size → acc.length ≤ i → Ev (fun n => certpathref01_Unhex.l0 n s acc (i : Int)) (unh acc ((bytesOf s).drop i))
  | 0, i, acc, hi, ha => by
    refine Ev.step (f := fun _ => some (strOfNums acc, true)) (fun n => by simp only [certpathref01_Unhex.l0]; rw [if_neg (by omega)]) ?_
    rw [List.drop_eq_nil_of_le (by rw [bytesOf_length]; omega)]
    exact Ev.now _
  | d + 1, i, acc, hi, ha => by
    have e1 : wrap64 ((i : Int) + 1) = (i : Int) + 1 := w64 _ (by omega) (by omega)
    have e2 : wrap64 ((i : Int) + 2) = ((i + 2 : Nat) : Int) := w64 _ (by omega) (by omega)
    refine Ev.step (f := fun n => (certpathref01_nibble.f n (bt s i)).bind fun a => (certpathref01_nibble.f n (bt s ((i : Int) + 1))).bind fun b => if a < 0 then some (⟨#[]⟩, false) else if b < 0 then some (⟨#[]⟩, false) else certpathref01_Unhex.l0 n s (acc ++ [(wrap64 ((wrap64 (16 * a)) + b)) % 256]) ((i + 2 : Nat) : Int)) (fun n => ?_) ?_
    · simp only [certpathref01_Unhex.l0]
      have p1 : 0 ≤ (i : Int) + 1 := by omega
      have p2 : (i : Int) + 1 < (s.size : Int) := by omega
      have p3 : acc.length < 140737488355328 := by omega
      rw [e1, e2, if_pos (by omega), if_pos (by omega)]
      simp only [p1, p2, p3, if_true]
    · refine Ev.bind (rnib_j _ (bt_range _ _)) (Ev.bind (rnib_j _ (bt_range _ _)) ?_)
      rw [drop_two s i (by omega)]
      unfold unh
      by_cases h1 : nib (bt s i) < 0
      · rw [if_pos h1]; exact Ev.congr (fun n => by rw [if_pos h1]) (Ev.now _)
      · by_cases h2 : nib (bt s ((i : Int) + 1)) < 0
        · rw [if_neg h1, if_pos h2]; exact Ev.congr (fun n => by rw [if_neg h1, if_pos h2]) (Ev.now _)
        · rw [if_neg h1, if_neg h2]
          have r1 := nib_range (bt s i)
          have r2 := nib_range (bt s ((i : Int) + 1))
          refine Ev.congr (fun n => by rw [if_neg h1, if_neg h2, w64 (16 * nib (bt s i)) (by omega) (by omega), w64 (16 * nib (bt s i) + nib (bt s ((i : Int) + 1))) (by omega) (by omega), show (16 * nib (bt s i) + nib (bt s ((i : Int) + 1))) % 256 = 16 * nib (bt s i) + nib (bt s ((i : Int) + 1)) by omega]) (runhex_ev s hs d (i + 2) _ (by omega) (by simp; omega))
theorem unhex_any (s : ByteArray) (hs : s.size ≤ 1000000) : Ev (fun n => hash_Unhex.f n s) (unhexS s) := by
  unfold hash_Unhex.f unhexS
  by_cases h : (s.size : Int) % 2 = 0
  · rw [if_pos h]
    refine Ev.congr (fun n => by rw [if_pos h]) ?_
    exact unhex_ev s hs (s.size / 2) 0 [] (by omega) (Nat.le_refl _)
  · rw [if_neg h]
    exact Ev.congr (fun n => by rw [if_neg h]) (Ev.now _)
theorem runhex_any (s : ByteArray) (hs : s.size ≤ 1000000) : Ev (fun n => certpathref01_Unhex.f n s) (unhexS s) := by
  unfold certpathref01_Unhex.f unhexS
  by_cases h : (s.size : Int) % 2 = 0
  · rw [if_pos h]
    refine Ev.congr (fun n => by rw [if_pos h]) ?_
    exact runhex_ev s hs (s.size / 2) 0 [] (by omega) (Nat.le_refl _)
  · rw [if_neg h]
    exact Ev.congr (fun n => by rw [if_neg h]) (Ev.now _)
theorem hexd_nib (c : Int) (h : ¬ nib c < 0) : hexd (nib c) = c := by
  unfold nib at *
  split at h
  · rename_i hc
    rw [if_pos hc]
    have : c = 48 ∨ c = 49 ∨ c = 50 ∨ c = 51 ∨ c = 52 ∨ c = 53 ∨ c = 54 ∨ c = 55 ∨ c = 56 ∨ c = 57 := by omega
    rcases this with rfl | rfl | rfl | rfl | rfl | rfl | rfl | rfl | rfl | rfl <;> rfl
  · rename_i hn
    split at h
    · rename_i hc
      rw [if_neg hn, if_pos hc]
      have : c = 97 ∨ c = 98 ∨ c = 99 ∨ c = 100 ∨ c = 101 ∨ c = 102 := by omega
      rcases this with rfl | rfl | rfl | rfl | rfl | rfl <;> rfl
    · omega
theorem unh_back : ∀ (m acc : List Int) (u : ByteArray), m.length % 2 = 0 → unh acc m = (u, true) → ∃ l, u = strOfNums (acc ++ l) ∧ hexL l = m ∧ Bytes l
  | [], acc, u, _, h => ⟨[], by unfold unh at h; injection h with h _; rw [List.append_nil]; exact h.symm, rfl, fun _ h => by cases h⟩
  | [a], acc, u, hl, h => by simp at hl
  | a :: b :: r, acc, u, hl, h => by
    unfold unh at h
    by_cases h1 : nib a < 0
    · rw [if_pos h1] at h; injection h with _ h; cases h
    · by_cases h2 : nib b < 0
      · rw [if_neg h1, if_pos h2] at h; injection h with _ h; cases h
      · rw [if_neg h1, if_neg h2] at h
        have r1 := nib_range a
        have r2 := nib_range b
        obtain ⟨l, hu, hx, hb⟩ := unh_back r _ u (by simp at hl; omega) h
        refine ⟨(16 * nib a + nib b) :: l, by rw [hu, List.append_assoc]; rfl, ?_, fun x hx => ?_⟩
        · unfold hexL at *
          rw [List.flatMap_cons, hx, show (16 * nib a + nib b) / 16 = nib a by omega, show (16 * nib a + nib b) % 16 = nib b by omega, hexd_nib a h1, hexd_nib b h2]
          rfl
        · rcases List.mem_cons.1 hx with rfl | hx
          · omega
          · exact hb x hx
theorem hex_unhex (s : ByteArray) (h : (unhexS s).2 = true) : hexS (unhexS s).1 = s := by
  unfold unhexS at *
  by_cases h0 : (s.size : Int) % 2 = 0
  · rw [if_pos h0] at *
    obtain ⟨l, hu, hx, hb⟩ := unh_back (bytesOf s) [] (unh [] (bytesOf s)).1 (by rw [bytesOf_length]; omega) (by rw [← h])
    rw [hu, List.nil_append]
    unfold hexS
    rw [bytes_strOf l hb, hx, strOf_bytes]
  · rw [if_neg h0] at h; cases h
theorem strOf_size (l : List Int) : (strOfNums l).size = l.length := by simp [strOfNums, ByteArray.size]
theorem hexS_size (s : ByteArray) : (hexS s).size = 2 * s.size := by
  unfold hexS
  rw [strOf_size, hexL_len, bytesOf_length]
theorem unhex_size : ∀ (m acc : List Int), (unh acc m).1.size ≤ acc.length + m.length
  | [], acc => by simp [unh, strOfNums, ByteArray.size]
  | [a], acc => by simp [unh, strOfNums, ByteArray.size]
  | a :: b :: r, acc => by
    unfold unh
    by_cases h1 : nib a < 0
    · rw [if_pos h1]; exact Nat.zero_le _
    · by_cases h2 : nib b < 0
      · rw [if_neg h1, if_pos h2]; exact Nat.zero_le _
      · rw [if_neg h1, if_neg h2]
        have := unhex_size r (acc ++ [16 * nib a + nib b])
        simp at this ⊢; omega
theorem unhexS_size (s : ByteArray) : (unhexS s).1.size ≤ s.size := by
  unfold unhexS
  split
  · have := unhex_size (bytesOf s) []; rw [bytesOf_length] at this; simpa using this
  · exact Nat.zero_le _
theorem law_loop (xs : List ByteArray) (hx : ∀ x ∈ xs, x.size ≤ 1000) (hl : xs.length < 100) : ∀ (d : Nat) (i : Int), 0 ≤ i → (xs.length : Int) - i = d → Ev (fun k => certpathlaw01_HashHex.l0 k xs xs.length i) true
  | 0, i, h0, hd => by
    refine Ev.step (f := fun k => (certpathlaw01_awake.f k).bind fun t => some t) (fun k => by simp only [certpathlaw01_HashHex.l0]; rw [if_neg (by omega)]) ?_
    exact Ev.bind awake_ev (Ev.now _)
  | d + 1, i, h0, hd => by
    have hs : (rdOf ByteArray.empty xs i).size ≤ 1000 := by
      refine hx _ ?_
      unfold rdOf
      rw [List.getD_eq_getElem?_getD, List.getElem?_eq_getElem (by omega)]
      exact List.getElem_mem _
    have hu := unhexS_size (rdOf ByteArray.empty xs i)
    have hb := hex_unhex (rdOf ByteArray.empty xs i)
    have ih := law_loop xs hx hl d (i + 1) (by omega) (by omega)
    have hN : wrap64 (i + 1) = i + 1 := w64 _ (by omega) (by omega)
    refine Ev.step (f := fun k => (hash_Unhex.f k (rdOf ByteArray.empty xs i)).bind fun a => (certpathref01_Unhex.f k (rdOf ByteArray.empty xs i)).bind fun b => if a.1.toList = b.1.toList then (if (a.2 != b.2) = true then some false else if a.2 = true then ((hash_Hex.f k a.1).bind fun t => if t.toList = (rdOf ByteArray.empty xs i).toList then ((hash_Hex.f k (rdOf ByteArray.empty xs i)).bind fun u => (certpathref01_Hex.f k (rdOf ByteArray.empty xs i)).bind fun v => if u.toList = v.toList then certpathlaw01_HashHex.l0 k xs (xs.length : Int) (i + 1) else some false) else some false) else ((hash_Hex.f k (rdOf ByteArray.empty xs i)).bind fun u => (certpathref01_Hex.f k (rdOf ByteArray.empty xs i)).bind fun v => if u.toList = v.toList then certpathlaw01_HashHex.l0 k xs (xs.length : Int) (i + 1) else some false)) else some false) (fun k => ?_) ?_
    · simp only [certpathlaw01_HashHex.l0]; rw [if_pos (by omega), if_pos h0, if_pos (by omega), hN]
    · generalize rdOf ByteArray.empty xs i = x at *
      refine Ev.bind (unhex_any x (by omega)) (Ev.bind (runhex_any x (by omega)) ?_)
      refine Ev.congr (fun k => by rw [if_pos rfl, if_neg (by simp)]) ?_
      by_cases hok : (unhexS x).2 = true
      · refine Ev.congr (fun k => by rw [if_pos hok]) ?_
        refine Ev.bind (hex_any _ (by omega)) ?_
        refine Ev.congr (fun k => by rw [if_pos (by rw [hb hok])]) ?_
        refine Ev.bind (hex_any _ (by omega)) (Ev.bind (rhex_any _ (by omega)) ?_)
        exact Ev.congr (fun k => by rw [if_pos rfl]) ih
      · refine Ev.congr (fun k => by rw [if_neg hok]) ?_
        refine Ev.bind (hex_any _ (by omega)) (Ev.bind (rhex_any _ (by omega)) ?_)
        exact Ev.congr (fun k => by rw [if_pos rfl]) ih
theorem HashHex : certpathlaw01_HashHex.Pure := by
  intro a b ha hb
  apply Ev.rounds
  unfold certpathlaw01_HashHex.f
  have hw : Ev (fun k => certpathlaw01_HashHex.j0 k a b true) true := by
    refine Ev.step (f := fun k => (certpathlaw01_awake.f k).bind fun t => some t) (fun k => by simp only [certpathlaw01_HashHex.j0]; rw [if_pos trivial]) ?_
    exact Ev.bind awake_ev (Ev.now _)
  by_cases h1 : (a.size : Int) > 400
  · exact Ev.congr (fun k => by rw [if_pos h1]) hw
  · refine Ev.congr (fun k => by rw [if_neg h1]) ?_
    by_cases h2 : (b.size : Int) > 400
    · rw [decide_eq_true h2]; exact hw
    · rw [decide_eq_false h2]
      refine Ev.step (f := fun k => (hash_Hex.f k a).bind fun t => certpathlaw01_HashHex.l0 k [b, a, t] (([b, a, t] : List ByteArray).length : Int) 0) (fun k => ?_) ?_
      · simp only [certpathlaw01_HashHex.j0]; rw [if_neg (by decide)]; rfl
      · refine Ev.bind (hex_any a (by omega)) ?_
        refine law_loop [b, a, hexS a] (fun x hx => ?_) (by simp) 3 0 (by omega) (by simp)
        simp only [List.mem_cons, List.not_mem_nil, or_false] at hx
        rcases hx with rfl | rfl | rfl
        · omega
        · omega
        · rw [hexS_size]; omega
end Go.Proofs.Ytpiakeejfggocab.Pure
