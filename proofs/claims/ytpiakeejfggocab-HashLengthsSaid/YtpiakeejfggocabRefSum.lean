/- The definition's Sum comes to the digest; hash.Sum's examples. -/
import Derived.Test.YtpiakeejfggocabHandSum
import Derived.Test.YtpiakeejfggocabCompR
import Derived.Test.YtpiakeejfggocabQx8
set_option linter.unusedVariables false
set_option linter.unusedSimpArgs false
namespace Go.Proofs.Ytpiakeejfggocab.RefSum
open Go Go.RowKit Go.Proofs.YtpiakeejfggocabW.PrintWords Go.Proofs.YtpiakeejfggocabW.PrintLast Go.Proofs.YtpiakeejfggocabW.PrintMore Go.Proofs.Ytpiakeejfggocab.Num Go.Proofs.Ytpiakeejfggocab.Sha Go.Proofs.Ytpiakeejfggocab.Strm Go.Proofs.Ytpiakeejfggocab.Comp Go.Proofs.Ytpiakeejfggocab.Hand Go.Proofs.Ytpiakeejfggocab.Q

theorem round_ev (h : List Int) (hg : h.length = 8) (b : ByteArray) (hb : b.size = 64) : Ev (fun k => certpathref01_round.f k h b) (comp h (bytesOf b)) := by
  obtain ⟨k, hk⟩ := round_ok h hg b hb
  exact Ev.of (certpathref01_round.mono h b) hk
theorem l3_ev (h : List Int) (hg : h.length = 8) : ∀ (d i : Nat), i + d = 8 → Ev (fun k => certpathref01_Sum.l3 k (outN h i) h 8 i) (strOfNums (outN h 8))
  | 0, i, hi => by
    refine Ev.step (f := fun _ => some (strOfNums (outN h i))) (fun k => by simp only [certpathref01_Sum.l3]; rw [if_neg (by omega)]) ?_
    rw [show i = 8 by omega]
    exact Ev.now _
  | d + 1, i, hi => by
    refine Ev.step (f := fun k => certpathref01_Sum.l3 k (outN h (i + 1)) h 8 ((i + 1 : Nat) : Int)) (fun k => ?_) (l3_ev h hg d (i + 1) (by omega))
    simp only [certpathref01_Sum.l3]
    rw [if_pos (by omega), if_pos (by omega), if_pos (by omega), Option.bind_some, if_pos (by rw [outN_len]; simp; omega), w64 _ (by omega) (by omega), outN_succ]
    have e : rd h (i : Int) = wd h i := by unfold rd wd; rw [Int.toNat_natCast]
    rw [e]
    rfl
theorem comp_len (h m : List Int) (hh : h.length = 8) : (comp h m).length = 8 := by unfold comp compG; rw [List.length_zipWith, rnd_len, hh]; rfl
theorem l2_ev (S : ByteArray) (hS : S.size ≤ 2000000000) (q : Nat) (hq : S.size = 64 * q) : ∀ (d j : Nat) (h : List Int), j + d = q → h.length = 8 → Ev (fun k => certpathref01_Sum.l2 k S h ((64 * j : Nat) : Int)) (strOfNums (Sha.out (Sha.runN comp d h ((bytesOf S).drop (64 * j)))))
  | 0, j, h, hj, hh => by
    refine Ev.step (f := fun k => certpathref01_Sum.l3 k (outN h 0) h 8 ((0 : Nat) : Int)) (fun k => ?_) ?_
    · simp only [certpathref01_Sum.l2]
      rw [if_neg (by omega), hh]
      rfl
    · show Ev _ (strOfNums (Sha.out h))
      rw [← outN_all h hh]
      exact l3_ev h hh 8 0 rfl
  | d + 1, j, h, hj, hh => by
    have hx : bytesOf (S.extract (64 * j) (64 * j + 64)) = ((bytesOf S).drop (64 * j)).take 64 := by
      rw [bytesOf_extract]; congr 1; omega
    refine Ev.step (f := fun k => (certpathref01_round.f k h (S.extract (64 * j) (64 * j + 64))).bind fun t => certpathref01_Sum.l2 k S t ((64 * (j + 1) : Nat) : Int)) (fun k => ?_) ?_
    · simp only [certpathref01_Sum.l2]
      rw [w64 (((64 * j : Nat) : Int) + 64) (by omega) (by omega), if_pos (by omega), if_pos (by omega), if_pos (by omega), if_pos (by omega)]
      rw [show (((64 * j : Nat) : Int)).toNat = 64 * j by omega, show (((64 * j : Nat) : Int) + 64).toNat = 64 * j + 64 by omega, show (((64 * j : Nat) : Int) + 64) = ((64 * (j + 1) : Nat) : Int) by omega]
    · refine Ev.bind (round_ev h hh _ (by rw [ByteArray.size_extract]; omega)) ?_
      have := l2_ev S hS q hq d (j + 1) (comp h (bytesOf (S.extract (64 * j) (64 * j + 64)))) (by omega) (comp_len _ _ hh)
      rw [hx] at this ⊢
      have e : (bytesOf S).drop (64 * (j + 1)) = ((bytesOf S).drop (64 * j)).drop 64 := by rw [List.drop_drop]; congr 1
      rw [e] at this
      exact this
theorem set_tail (z j : Nat) (T : List Int) (v : Int) : (128 :: (List.replicate z 0 ++ T)).set (1 + z + j) v = 128 :: (List.replicate z 0 ++ T.set j v) := by
  rw [show 1 + z + j = (z + j) + 1 by omega, List.set_cons_succ, List.set_append_right _ _ (by simp)]
  simp
theorem byte_at (n i : Nat) (hi : i < 8) (hn : n ≤ 1000000000) : shr .i64 (wrap64 (8 * (n : Int))) (wrap64 (8 * (i : Int))) % 256 = (((8 * n) / 256 ^ i % 256 : Nat) : Int) := by
  rw [w64 (8 * (n : Int)) (by omega) (by omega), w64 (8 * (i : Int)) (by omega) (by omega)]
  have e1 : (8 * (n : Int)) = ((8 * n : Nat) : Int) := by omega
  have e2 : (8 * (i : Int)) = ((8 * i : Nat) : Int) := by omega
  rw [e1, e2, shr_i64_nat _ _ (by omega), Nat.pow_mul, show (2 : Nat) ^ 8 = 256 from rfl]
  omega
theorem l1_ev (B : ByteArray) (h : List Int) (n z : Nat) (hn : n ≤ 1000000000) (hz : z < 64) (hB : B.size ≤ 1000000000) (r : ByteArray)
    (hr : Ev (fun k => certpathref01_Sum.l2 k (B ++ strOfNums (128 :: (List.replicate z 0 ++ len8 n))) h 0) r) : ∀ (d i : Nat) (T : List Int), i + d = 8 → T.length = 8 → (∀ j, j < i → T[7 - j]? = some ((((8 * n) / 256 ^ j % 256 : Nat) : Int))) → Ev (fun k => certpathref01_Sum.l1 k B h (n : Int) (128 :: (List.replicate z 0 ++ T)) (i : Int)) r
  | 0, i, T, hi, hT, hj => by
    have e : T = len8 n := by
      apply List.ext_getElem?
      intro j
      by_cases hj8 : j < 8
      · have h1 := hj (7 - j) (by omega)
        rw [show 7 - (7 - j) = j by omega] at h1
        rw [h1]
        simp [len8, hj8]
      · rw [List.getElem?_eq_none (by omega), List.getElem?_eq_none (by simp [len8]; omega)]
    refine Ev.step (f := fun k => certpathref01_Sum.l2 k (B ++ strOfNums (128 :: (List.replicate z 0 ++ len8 n))) h 0) (fun k => ?_) hr
    simp only [certpathref01_Sum.l1]
    have hs : (strOfNums (128 :: (List.replicate z 0 ++ T))).size = z + 9 := by simp [strOfNums, ByteArray.size, hT]
    rw [if_neg (by omega), if_pos (by rw [hs]; omega), e]
  | d + 1, i, T, hi, hT, hj => by
    have hl : ((128 :: (List.replicate z 0 ++ T) : List Int).length : Int) = z + 9 := by simp [hT]; omega
    refine Ev.step (f := fun k => certpathref01_Sum.l1 k B h (n : Int) (128 :: (List.replicate z 0 ++ T.set (7 - i) ((((8 * n) / 256 ^ i % 256 : Nat) : Int)))) ((i + 1 : Nat) : Int)) (fun k => ?_)
      (l1_ev B h n z hn hz hB r hr d (i + 1) _ (by omega) (by simpa using hT) (fun j hj' => ?_))
    · simp only [certpathref01_Sum.l1]
      rw [hl, byte_at n i (by omega) hn]
      rw [w64 ((z : Int) + 9 - 1) (by omega) (by omega), w64 ((z : Int) + 9 - 1 - i) (by omega) (by omega), w64 (8 * (i : Int)) (by omega) (by omega), w64 ((i : Int) + 1) (by omega) (by omega)]
      rw [if_pos (by omega), if_pos (by omega), if_pos (by omega), if_pos (by omega)]
      rw [show ((z : Int) + 9 - 1 - i).toNat = 1 + z + (7 - i) by omega, set_tail]
      rfl
    · by_cases e : j = i
      · subst e
        rw [List.getElem?_set_self (by omega)]
      · rw [List.getElem?_set_ne (by omega)]
        exact hj j (by omega)
theorem j1_ev (B : ByteArray) (h : List Int) (n z : Nat) (hn : n ≤ 1000000000) (hz : z < 64) (hB : B.size ≤ 1000000000) (r : ByteArray)
    (hr : Ev (fun k => certpathref01_Sum.l2 k (B ++ strOfNums (128 :: (List.replicate z 0 ++ len8 n))) h 0) r) : Ev (fun k => certpathref01_Sum.j1 k B h (n : Int) (z : Int)) r := by
  refine Ev.step (f := fun k => certpathref01_Sum.l1 k B h (n : Int) (128 :: (List.replicate z 0 ++ [0, 0, 0, 0, 0, 0, 0, 0])) ((0 : Nat) : Int)) (fun k => ?_) (l1_ev B h n z hn hz hB r hr 8 0 _ rfl rfl (fun j hj => absurd hj (by omega)))
  simp only [certpathref01_Sum.j1]
  rw [w64 (9 + (z : Int)) (by omega) (by omega), if_pos (by omega), if_pos (by omega), Option.bind_some]
  have e : List.replicate (9 + (z : Int)).toNat (0 : Int) = 0 :: (List.replicate z 0 ++ [0, 0, 0, 0, 0, 0, 0, 0]) := by
    rw [show (9 + (z : Int)).toNat = (z + 8) + 1 by omega, List.replicate_succ, ← List.replicate_append_replicate]
    rfl
  rw [e, if_pos (by simp; omega)]
  rfl
theorem pad_of (n : Nat) : (if 64 - ((n : Int) + 9) % 64 = 64 then (0 : Int) else 64 - ((n : Int) + 9) % 64) = (zs n : Int) := by
  unfold zs
  split <;> omega
theorem l0_ev (l : List ByteArray) (hcat : (cat l).length ≤ 1000000000) (hlen : l.length ≤ 1000000000) : ∀ (d k : Nat) (B : ByteArray), k + d = l.length → bytesOf B = cat (l.take k) → Ev (fun n => certpathref01_Sum.l0 n B l (l.length : Int) (k : Int)) (digest (cat l))
  | 0, k, B, hk, hB => by
    have hB2 : bytesOf B = cat l := by rw [hB, List.take_of_length_le (by omega)]
    have hs : B.size = (cat l).length := by rw [← hB2, bytesOf_length]
    refine Ev.step (f := fun n => certpathref01_Sum.j1 n B Sha.init ((cat l).length : Int) (zs (cat l).length : Int)) (fun n => ?_) ?_
    · simp only [certpathref01_Sum.l0]
      rw [if_neg (by omega), Option.bind_some, hs]
      rw [w64 (((cat l).length : Int) + 9) (by omega) (by omega), Int.tmod_eq_emod_of_nonneg (by omega), w64 (64 - (((cat l).length : Int) + 9) % 64) (by omega) (by omega)]
      have hp := pad_of (cat l).length
      split
      · rename_i h; rw [if_pos h] at hp; rw [← hp]; rfl
      · rename_i h; rw [if_neg h] at hp; rw [← hp]; rfl
    · have hz : zs (cat l).length < 64 := by unfold zs; omega
      refine j1_ev B Sha.init (cat l).length (zs (cat l).length) hcat hz (by omega) _ ?_
      have hby : bytesOf (B ++ strOfNums (128 :: (List.replicate (zs (cat l).length) 0 ++ len8 (cat l).length))) = cat l ++ pad (cat l).length := by
        have e1 : bytesOf (strOfNums (128 :: (List.replicate (zs (cat l).length) 0 ++ len8 (cat l).length))) = pad (cat l).length := bytes_strOf _ (pad_bytes _)
        have e2 : ∀ a b : ByteArray, bytesOf (a ++ b) = bytesOf a ++ bytesOf b := fun a b => by simp [bytesOf]
        rw [e2, e1, hB2]
      have hsz := bytesOf_length (B ++ strOfNums (128 :: (List.replicate (zs (cat l).length) 0 ++ len8 (cat l).length)))
      rw [hby, List.length_append, pad_len] at hsz
      have hw := pad_whole (cat l)
      rw [List.length_append, pad_len] at hw
      have h2 := l2_ev (B ++ strOfNums (128 :: (List.replicate (zs (cat l).length) 0 ++ len8 (cat l).length))) (by omega) (((cat l).length + (9 + zs (cat l).length)) / 64) (by omega) (((cat l).length + (9 + zs (cat l).length)) / 64) 0 Sha.init (by omega) rfl
      rw [hby] at h2
      have e3 : digest (cat l) = strOfNums (Sha.out (Sha.runN comp (((cat l).length + (9 + zs (cat l).length)) / 64) Sha.init ((cat l ++ pad (cat l).length).drop (64 * 0)))) := by
        unfold digest Sha.sha
        rw [List.length_append, pad_len, Nat.mul_zero, List.drop_zero]
      rw [e3]
      exact h2
  | d + 1, k, B, hk, hB => by
    have hkl : k < l.length := by omega
    have hle := cat_le l (k + 1)
    rw [cat_take l k hkl, List.length_append, bytesOf_length] at hle
    have hsB : B.size = (cat (l.take k)).length := by rw [← hB, bytesOf_length]
    have e2 : ∀ a b : ByteArray, bytesOf (a ++ b) = bytesOf a ++ bytesOf b := fun a b => by simp [bytesOf]
    refine Ev.step (f := fun n => certpathref01_Sum.l0 n (B ++ rdOf ByteArray.empty l (k : Int)) l (l.length : Int) ((k + 1 : Nat) : Int)) (fun n => ?_) (l0_ev l hcat hlen d (k + 1) _ (by omega) (by rw [e2, hB, cat_take l k hkl]))
    simp only [certpathref01_Sum.l0]
    rw [if_pos (by omega), if_pos (by omega), if_pos (by omega), if_pos (by omega), w64 ((k : Int) + 1) (by omega) (by omega)]
    rfl
theorem refsum_ev (l : List ByteArray) (hcat : (cat l).length ≤ 1000000000) (hlen : l.length ≤ 1000000000) : Ev (fun k => certpathref01_Sum.f k l) (digest (cat l)) :=
  l0_ev l hcat hlen l.length 0 _ (by omega) rfl
end Go.Proofs.Ytpiakeejfggocab.RefSum
