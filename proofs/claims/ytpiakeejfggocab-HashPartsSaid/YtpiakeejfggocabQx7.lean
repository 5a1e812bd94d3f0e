-- Written by a program of this session (wip/prn.py) out of the translation, for the seat Ytpiakeejfggocab. Not trusted: Lean checks it.
import Derived.Test.YtpiakeejfggocabQx0
namespace Go.Proofs.Ytpiakeejfggocab.Q
open Go.RowKit Go.Proofs.YtpiakeejfggocabW.PrintWords Go.Proofs.YtpiakeejfggocabW.PrintLast Go.Proofs.YtpiakeejfggocabW.PrintMore
attribute [local go_sem] max2_int min2_int max_two min_two max_three min_three max_four min_four   -- for this text's walks alone
set_option linter.unusedVariables false
set_option linter.unusedSimpArgs false

/-! ### certpathref01_round: function 22 -/
mutual
def certpathref01_round.l0 : Nat → List Int → ByteArray → List Int → List Int → Int → Option (List Int)
 | 0, _, _, _, _, _ => none
 | k + 1, x0, x1, x5, x6, x7 => if x7 < 16 then (if 0 ≤ (wrap64 (4 * x7)) then (if (wrap64 (4 * x7)) < (x1.size : Int) then (if 0 ≤ (wrap64 ((wrap64 (4 * x7)) + 1)) then (if (wrap64 ((wrap64 (4 * x7)) + 1)) < (x1.size : Int) then (if 0 ≤ (wrap64 ((wrap64 (4 * x7)) + 2)) then (if (wrap64 ((wrap64 (4 * x7)) + 2)) < (x1.size : Int) then (if 0 ≤ (wrap64 ((wrap64 (4 * x7)) + 3)) then (if (wrap64 ((wrap64 (4 * x7)) + 3)) < (x1.size : Int) then (if 0 ≤ x7 then (if x7 < (64 : Int) then (certpathref01_round.l0 k x0 x1 x5 (x6.set (x7 : Int).toNat (Go.bits .or .u32 (Go.bits .or .u32 (Go.bits .or .u32 ((((bt x1 (wrap64 (4 * x7))) % 4294967296) * 16777216) % 4294967296) ((((bt x1 (wrap64 ((wrap64 (4 * x7)) + 1))) % 4294967296) * 65536) % 4294967296)) ((((bt x1 (wrap64 ((wrap64 (4 * x7)) + 2))) % 4294967296) * 256) % 4294967296)) ((bt x1 (wrap64 ((wrap64 (4 * x7)) + 3))) % 4294967296))) (wrap64 (x7 + 1))) else (none)) else (none)) else (none)) else (none)) else (none)) else (none)) else (none)) else (none)) else (none)) else (none)) else (certpathref01_round.l1 k x0 x5 x6 16)
def certpathref01_round.l1 : Nat → List Int → List Int → List Int → Int → Option (List Int)
 | 0, _, _, _, _ => none
 | k + 1, x0, x5, x6, x8 => if x8 < 64 then (if 0 ≤ (wrap64 (x8 - 15)) then (if (wrap64 (x8 - 15)) < (64 : Int) then (if 0 ≤ (wrap64 (x8 - 2)) then (if (wrap64 (x8 - 2)) < (64 : Int) then (if 0 ≤ (wrap64 (x8 - 16)) then (if (wrap64 (x8 - 16)) < (64 : Int) then (if 0 ≤ (wrap64 (x8 - 7)) then (if (wrap64 (x8 - 7)) < (64 : Int) then (if 0 ≤ x8 then (if x8 < (64 : Int) then (certpathref01_round.l1 k x0 x5 (x6.set (x8 : Int).toNat (((((rd x6 (wrap64 (x8 - 16))) + (Go.bits .xor .u32 (Go.bits .xor .u32 (Go.bits .or .u32 ((rd x6 (wrap64 (x8 - 15))) / 128) (((rd x6 (wrap64 (x8 - 15))) * 33554432) % 4294967296)) (Go.bits .or .u32 ((rd x6 (wrap64 (x8 - 15))) / 262144) (((rd x6 (wrap64 (x8 - 15))) * 16384) % 4294967296))) ((rd x6 (wrap64 (x8 - 15))) / 8))) + (rd x6 (wrap64 (x8 - 7)))) + (Go.bits .xor .u32 (Go.bits .xor .u32 (Go.bits .or .u32 ((rd x6 (wrap64 (x8 - 2))) / 131072) (((rd x6 (wrap64 (x8 - 2))) * 32768) % 4294967296)) (Go.bits .or .u32 ((rd x6 (wrap64 (x8 - 2))) / 524288) (((rd x6 (wrap64 (x8 - 2))) * 8192) % 4294967296))) ((rd x6 (wrap64 (x8 - 2))) / 1024))) % 4294967296)) (wrap64 (x8 + 1))) else (none)) else (none)) else (none)) else (none)) else (none)) else (none)) else (none)) else (none)) else (none)) else (none)) else (if 0 < (x0.length : Int) then (if 1 < (x0.length : Int) then (if 2 < (x0.length : Int) then (if 3 < (x0.length : Int) then (if 4 < (x0.length : Int) then (if 5 < (x0.length : Int) then (if 6 < (x0.length : Int) then (if 7 < (x0.length : Int) then (certpathref01_round.l2 k x0 x5 x6 (rd x0 0) (rd x0 1) (rd x0 2) (rd x0 3) (rd x0 4) (rd x0 5) (rd x0 6) (rd x0 7) 0) else (none)) else (none)) else (none)) else (none)) else (none)) else (none)) else (none)) else (none))
def certpathref01_round.l2 : Nat → List Int → List Int → List Int → Int → Int → Int → Int → Int → Int → Int → Int → Int → Option (List Int)
 | 0, _, _, _, _, _, _, _, _, _, _, _, _ => none
 | k + 1, x0, x5, x6, x13, x14, x15, x16, x17, x18, x19, x20, x21 => if x21 < 64 then (if 0 ≤ x21 then (if x21 < (x5.length : Int) then (if x21 < (64 : Int) then (certpathref01_round.l2 k x0 x5 x6 ((((((x20 + (Go.bits .xor .u32 (Go.bits .xor .u32 (Go.bits .or .u32 (x17 / 64) ((x17 * 67108864) % 4294967296)) (Go.bits .or .u32 (x17 / 2048) ((x17 * 2097152) % 4294967296))) (Go.bits .or .u32 (x17 / 33554432) ((x17 * 128) % 4294967296)))) + (Go.bits .xor .u32 (Go.bits .and .u32 x17 x18) (Go.bits .and .u32 (Go.bits .xor .u32 4294967295 x17) x19))) + (rd x5 x21)) + (rd x6 x21)) + ((Go.bits .xor .u32 (Go.bits .xor .u32 (Go.bits .or .u32 (x13 / 4) ((x13 * 1073741824) % 4294967296)) (Go.bits .or .u32 (x13 / 8192) ((x13 * 524288) % 4294967296))) (Go.bits .or .u32 (x13 / 4194304) ((x13 * 1024) % 4294967296))) + (Go.bits .xor .u32 (Go.bits .xor .u32 (Go.bits .and .u32 x13 x14) (Go.bits .and .u32 x13 x15)) (Go.bits .and .u32 x14 x15)))) % 4294967296) x13 x14 x15 ((x16 + ((((x20 + (Go.bits .xor .u32 (Go.bits .xor .u32 (Go.bits .or .u32 (x17 / 64) ((x17 * 67108864) % 4294967296)) (Go.bits .or .u32 (x17 / 2048) ((x17 * 2097152) % 4294967296))) (Go.bits .or .u32 (x17 / 33554432) ((x17 * 128) % 4294967296)))) + (Go.bits .xor .u32 (Go.bits .and .u32 x17 x18) (Go.bits .and .u32 (Go.bits .xor .u32 4294967295 x17) x19))) + (rd x5 x21)) + (rd x6 x21))) % 4294967296) x17 x18 x19 (wrap64 (x21 + 1))) else (none)) else (none)) else (none)) else (if 0 < (x0.length : Int) then (if 1 < (x0.length : Int) then (if 2 < (x0.length : Int) then (if 3 < (x0.length : Int) then (if 4 < (x0.length : Int) then (if 5 < (x0.length : Int) then (if 6 < (x0.length : Int) then (if 7 < (x0.length : Int) then (some (([((rd x0 0) + x13) % 4294967296, ((rd x0 1) + x14) % 4294967296, ((rd x0 2) + x15) % 4294967296, ((rd x0 3) + x16) % 4294967296, ((rd x0 4) + x17) % 4294967296, ((rd x0 5) + x18) % 4294967296, ((rd x0 6) + x19) % 4294967296, ((rd x0 7) + x20) % 4294967296] : List Int))) else (none)) else (none)) else (none)) else (none)) else (none)) else (none)) else (none)) else (none))
end
def certpathref01_round.f (k : Nat) (l0 : List Int) (a1 : ByteArray) : Option (List Int) := certpathref01_round.l0 k l0 a1 (([1116352408, 1899447441, 3049323471, 3921009573, 961987163, 1508970993, 2453635748, 2870763221, 3624381080, 310598401, 607225278, 1426881987, 1925078388, 2162078206, 2614888103, 3248222580, 3835390401, 4022224774, 264347078, 604807628, 770255983, 1249150122, 1555081692, 1996064986, 2554220882, 2821834349, 2952996808, 3210313671, 3336571891, 3584528711, 113926993, 338241895, 666307205, 773529912, 1294757372, 1396182291, 1695183700, 1986661051, 2177026350, 2456956037, 2730485921, 2820302411, 3259730800, 3345764771, 3516065817, 3600352804, 4094571909, 275423344, 430227734, 506948616, 659060556, 883997877, 958139571, 1322822218, 1537002063, 1747873779, 1955562222, 2024104815, 2227730452, 2361852424, 2428436474, 2756734187, 3204031479, 3329325298] : List Int)) (List.replicate 64 0) 0
theorem certpathref01_round.mono_l : ∀ k, (∀ y0 y1 y2 y3 y4, LeO (certpathref01_round.l0 k y0 y1 y2 y3 y4) (certpathref01_round.l0 (k + 1) y0 y1 y2 y3 y4)) ∧ (∀ y0 y1 y2 y3, LeO (certpathref01_round.l1 k y0 y1 y2 y3) (certpathref01_round.l1 (k + 1) y0 y1 y2 y3)) ∧ (∀ y0 y1 y2 y3 y4 y5 y6 y7 y8 y9 y10 y11, LeO (certpathref01_round.l2 k y0 y1 y2 y3 y4 y5 y6 y7 y8 y9 y10 y11) (certpathref01_round.l2 (k + 1) y0 y1 y2 y3 y4 y5 y6 y7 y8 y9 y10 y11))
 | 0 => ⟨fun _ _ _ _ _ r h => by simp [certpathref01_round.l0] at h, fun _ _ _ _ r h => by simp [certpathref01_round.l1] at h, fun _ _ _ _ _ _ _ _ _ _ _ _ r h => by simp [certpathref01_round.l2] at h⟩
 | k + 1 => by
  obtain ⟨ih0, ih1, ih2⟩ := certpathref01_round.mono_l k
  refine ⟨?_, ?_, ?_⟩
  ·intro y0 y1 y2 y3 y4
   unfold certpathref01_round.l0
   repeat' first
   | (with_reducible exact ih0 _ _ _ _ _)
   | (with_reducible exact ih1 _ _ _ _)
   | (with_reducible exact ih2 _ _ _ _ _ _ _ _ _ _ _ _)
   | (with_reducible exact LeO.refl _)
   | (with_reducible exact LeO.none _)
   | (with_reducible refine LeO.ite ?_ ?_)
   | (with_reducible refine LeO.bind ?_ (fun _ => ?_))
   | exact ih0 _ _ _ _ _
   | exact ih1 _ _ _ _
   | exact ih2 _ _ _ _ _ _ _ _ _ _ _ _
   | exact LeO.none _
   | refine LeO.ite ?_ ?_
   | refine LeO.bind ?_ (fun _ => ?_)
  ·intro y0 y1 y2 y3
   unfold certpathref01_round.l1
   repeat' first
   | (with_reducible exact ih0 _ _ _ _ _)
   | (with_reducible exact ih1 _ _ _ _)
   | (with_reducible exact ih2 _ _ _ _ _ _ _ _ _ _ _ _)
   | (with_reducible exact LeO.refl _)
   | (with_reducible exact LeO.none _)
   | (with_reducible refine LeO.ite ?_ ?_)
   | (with_reducible refine LeO.bind ?_ (fun _ => ?_))
   | exact ih0 _ _ _ _ _
   | exact ih1 _ _ _ _
   | exact ih2 _ _ _ _ _ _ _ _ _ _ _ _
   | exact LeO.none _
   | refine LeO.ite ?_ ?_
   | refine LeO.bind ?_ (fun _ => ?_)
  ·intro y0 y1 y2 y3 y4 y5 y6 y7 y8 y9 y10 y11
   unfold certpathref01_round.l2
   repeat' first
   | (with_reducible exact ih0 _ _ _ _ _)
   | (with_reducible exact ih1 _ _ _ _)
   | (with_reducible exact ih2 _ _ _ _ _ _ _ _ _ _ _ _)
   | (with_reducible exact LeO.refl _)
   | (with_reducible exact LeO.none _)
   | (with_reducible refine LeO.ite ?_ ?_)
   | (with_reducible refine LeO.bind ?_ (fun _ => ?_))
   | exact ih0 _ _ _ _ _
   | exact ih1 _ _ _ _
   | exact ih2 _ _ _ _ _ _ _ _ _ _ _ _
   | exact LeO.none _
   | refine LeO.ite ?_ ?_
   | refine LeO.bind ?_ (fun _ => ?_)
theorem certpathref01_round.mono : ∀ a0 a1 k, LeO (certpathref01_round.f k a0 a1) (certpathref01_round.f (k + 1) a0 a1) := by
 intro a0 a1 k
 obtain ⟨ih0, ih1, ih2⟩ := certpathref01_round.mono_l k
 unfold certpathref01_round.f
 repeat' first
   | (with_reducible exact ih0 _ _ _ _ _)
   | (with_reducible exact ih1 _ _ _ _)
   | (with_reducible exact ih2 _ _ _ _ _ _ _ _ _ _ _ _)
   | (with_reducible exact LeO.refl _)
   | (with_reducible exact LeO.none _)
   | (with_reducible refine LeO.ite ?_ ?_)
   | (with_reducible refine LeO.bind ?_ (fun _ => ?_))
   | exact ih0 _ _ _ _ _
   | exact ih1 _ _ _ _
   | exact ih2 _ _ _ _ _ _ _ _ _ _ _ _
   | exact LeO.none _
   | refine LeO.ite ?_ ?_
   | refine LeO.bind ?_ (fun _ => ?_)
def certpathref01_round.T6 : Bool × List (List Nat × List Nat) := (true, [([], []), ([], []), ([], []), ([2], [2]), ([1, 3], [1, 3]), ([4], [4]), ([5], [5]), ([], []), ([], []), ([8], [8]), ([9], [9]), ([7, 10], [7, 10]), ([11], [11]), ([12], [12]), ([6, 13], [6, 13]), ([], []), ([], []), ([16], [16]), ([17], [17]), ([15, 18], [15, 18]), ([19], [19]), ([20], [20]), ([14, 21], [14, 21]), ([], []), ([], []), ([24], [24]), ([25], [25]), ([23, 26], [23, 26]), ([27], [27]), ([22, 28], [22, 28]), ([0, 0, 1, 2, 3, 4, 5, 6, 7, 8, 9, 10, 11, 12, 13, 14, 15, 16, 17, 18, 19, 20, 21, 22, 23, 24, 25, 26, 27, 28, 29], [0]), ([30, 29, 0, 1, 2, 3, 4, 5, 6, 7, 8, 9, 10, 11, 12, 13, 14, 15, 16, 17, 18, 19, 20, 21, 22, 23, 24, 25, 26, 27, 28, 29], [29, 30])])
def certpathref01_round.B6 : List Nat := [0, 0, 0, 4, 14, 30, 62, 0, 0, 256, 768, 1920, 3968, 8064, 16382, 0, 0, 65536, 196608, 491520, 1015808, 2064384, 4194302, 0, 0, 16777216, 50331648, 125829120, 260046848, 536870910, 1073741823, 2147483647]
theorem certpathref01_round.tab6 : rtab .any (opsOf Try.f22 6) = certpathref01_round.T6 := by kernel_rfl
theorem certpathref01_round.bits6 : waitsOk certpathref01_round.T6.2 certpathref01_round.B6 = true := by kernel_rfl
def certpathref01_round.T10 : Bool × List (List Nat × List Nat) := (true, [([], []), ([0], [0]), ([1], [1]), ([2], [2]), ([], []), ([4], [4]), ([5], [5]), ([6], [6]), ([3, 0, 1, 2, 3], [3]), ([7, 8, 0, 1, 2, 3, 4, 5, 6, 7, 8], [7])])
def certpathref01_round.B10 : List Nat := [0, 1, 3, 7, 0, 16, 48, 112, 15, 511]
theorem certpathref01_round.tab10 : rtab .any (opsOf Try.f22 10) = certpathref01_round.T10 := by kernel_rfl
theorem certpathref01_round.bits10 : waitsOk certpathref01_round.T10.2 certpathref01_round.B10 = true := by kernel_rfl
def certpathref01_round.T13 : Bool × List (List Nat × List Nat) := (true, [([], []), ([], []), ([1], [1]), ([2], [2]), ([3], [3]), ([], []), ([4, 5], [4, 5]), ([], []), ([7], [7]), ([8], [8]), ([9], [9]), ([6, 10], [6, 10]), ([], []), ([11, 12], [11, 12]), ([0, 0, 1, 2, 3, 4, 5, 6, 7, 8, 9, 10, 11, 12, 13], [0]), ([14, 13, 0, 1, 2, 3, 4, 5, 6, 7, 8, 9, 10, 11, 12, 13], [13, 14])])
def certpathref01_round.B13 : List Nat := [0, 0, 2, 6, 14, 0, 62, 0, 128, 384, 896, 2046, 0, 8190, 16383, 32767]
theorem certpathref01_round.tab13 : rtab .any (opsOf Try.f22 13) = certpathref01_round.T13 := by kernel_rfl
theorem certpathref01_round.bits13 : waitsOk certpathref01_round.T13.2 certpathref01_round.B13 = true := by kernel_rfl
def certpathref01_round.T14 : Bool × List (List Nat × List Nat) := (true, [([], []), ([0], [0]), ([1], [1]), ([], []), ([3], [3]), ([4], [4]), ([], []), ([6], [6]), ([7], [7]), ([], []), ([9], [9]), ([10], [10]), ([], []), ([12], [12]), ([13], [13]), ([], []), ([15], [15]), ([16], [16]), ([], []), ([18], [18]), ([19], [19]), ([], []), ([21], [21]), ([22], [22]), ([2, 0, 1, 2], [2]), ([5, 24, 0, 1, 2, 3, 4, 5, 24], [5]), ([8, 25, 0, 1, 2, 3, 4, 5, 6, 7, 8, 24, 25], [8]), ([11, 26, 0, 1, 2, 3, 4, 5, 6, 7, 8, 9, 10, 11, 24, 25, 26], [11]), ([14, 27, 0, 1, 2, 3, 4, 5, 6, 7, 8, 9, 10, 11, 12, 13, 14, 24, 25, 26, 27], [14]), ([17, 28, 0, 1, 2, 3, 4, 5, 6, 7, 8, 9, 10, 11, 12, 13, 14, 15, 16, 17, 24, 25, 26, 27, 28], [17]), ([20, 29, 0, 1, 2, 3, 4, 5, 6, 7, 8, 9, 10, 11, 12, 13, 14, 15, 16, 17, 18, 19, 20, 24, 25, 26, 27, 28, 29], [20]), ([23, 30, 0, 1, 2, 3, 4, 5, 6, 7, 8, 9, 10, 11, 12, 13, 14, 15, 16, 17, 18, 19, 20, 21, 22, 23, 24, 25, 26, 27, 28, 29, 30], [23])])
def certpathref01_round.B14 : List Nat := [0, 1, 3, 0, 8, 24, 0, 64, 192, 0, 512, 1536, 0, 4096, 12288, 0, 32768, 98304, 0, 262144, 786432, 0, 2097152, 6291456, 7, 16777279, 50332159, 117444607, 251691007, 520355839, 1059061759, 2147483647]
theorem certpathref01_round.tab14 : rtab .any (opsOf Try.f22 14) = certpathref01_round.T14 := by kernel_rfl
theorem certpathref01_round.bits14 : waitsOk certpathref01_round.T14.2 certpathref01_round.B14 = true := by kernel_rfl
def certpathref01_round.T19 : Bool × List (List Nat × List Nat) := (true, [([], []), ([], []), ([0, 1], [0, 1]), ([], []), ([], []), ([3, 4], [3, 4]), ([], []), ([6], [6]), ([], []), ([7, 8], [7, 8]), ([5, 9], [5, 9]), ([2, 10], [2, 10]), ([], []), ([], []), ([12, 13], [12, 13]), ([14], [14]), ([11, 15], [11, 15]), ([], []), ([17], [17]), ([18], [18]), ([16, 19], [16, 19]), ([20, 0, 1, 2, 3, 4, 5, 6, 7, 8, 9, 10, 11, 12, 13, 14, 15, 16, 17, 18, 19, 20], [20])])
def certpathref01_round.B19 : List Nat := [0, 0, 3, 0, 0, 24, 0, 64, 0, 448, 1016, 2047, 0, 0, 12288, 28672, 65535, 0, 131072, 393216, 1048575, 2097151]
theorem certpathref01_round.tab19 : rtab .any (opsOf Try.f22 19) = certpathref01_round.T19 := by kernel_rfl
theorem certpathref01_round.bits19 : waitsOk certpathref01_round.T19.2 certpathref01_round.B19 = true := by kernel_rfl
def certpathref01_round.T23 : Bool × List (List Nat × List Nat) := (true, [([], []), ([0], [0]), ([1], [1]), ([], []), ([2, 3], [2, 3]), ([], []), ([5], [5]), ([6], [6]), ([], []), ([7, 8], [7, 8]), ([], []), ([10], [10]), ([11], [11]), ([], []), ([12, 13], [12, 13]), ([], []), ([15], [15]), ([16], [16]), ([], []), ([17, 18], [17, 18]), ([], []), ([20], [20]), ([21], [21]), ([], []), ([22, 23], [22, 23]), ([], []), ([25], [25]), ([26], [26]), ([], []), ([27, 28], [27, 28]), ([], []), ([30], [30]), ([31], [31]), ([], []), ([32, 33], [32, 33]), ([], []), ([35], [35]), ([36], [36]), ([], []), ([37, 38], [37, 38]), ([4, 9, 14, 19, 24, 29, 34, 39], [4, 9, 14, 19, 24, 29, 34, 39]), ([40, 0, 1, 2, 3, 4, 5, 6, 7, 8, 9, 10, 11, 12, 13, 14, 15, 16, 17, 18, 19, 20, 21, 22, 23, 24, 25, 26, 27, 28, 29, 30, 31, 32, 33, 34, 35, 36, 37, 38, 39, 40], [40])])
def certpathref01_round.B23 : List Nat := [0, 1, 3, 0, 15, 0, 32, 96, 0, 480, 0, 1024, 3072, 0, 15360, 0, 32768, 98304, 0, 491520, 0, 1048576, 3145728, 0, 15728640, 0, 33554432, 100663296, 0, 503316480, 0, 1073741824, 3221225472, 0, 16106127360, 0, 34359738368, 103079215104, 0, 515396075520, 1099511627775, 2199023255551]
theorem certpathref01_round.tab23 : rtab .any (opsOf Try.f22 23) = certpathref01_round.T23 := by kernel_rfl
theorem certpathref01_round.bits23 : waitsOk certpathref01_round.T23.2 certpathref01_round.B23 = true := by kernel_rfl
set_option maxHeartbeats 8000000 in
set_option maxRecDepth 100000 in
theorem certpathref01_round.calls (k : Nat) (A0 : Option Addr) (c0 : Nat) (l0 : List Int) (a1 : ByteArray) (r : List Int) (w : World) (hr0 : Kd.C (Kd.int .u32) w A0 l0.length l0) (hc0 : l0.length ≤ c0) (h : certpathref01_round.f k l0 a1 = some r) :
  Calls Try.prog 22 #[.slice A0 l0.length c0, .string a1] w fun e w' => ∃ v0_ : Value, e = .returned (v0_) ∧ Kd.R (Kd.int .u32) 35 w' w.heap.size (fun _ => True) v0_ r ∧ Below w.heap.size w w' := by
 have HR0 := Aside0.mk hr0
 have HC0 := Aside0.mk hc0
 clear hr0 hc0
 have HB := Aside0.mk (Below.refl w.heap.size w)
 have H : (certpathref01_round.l0 k l0 a1 (([1116352408, 1899447441, 3049323471, 3921009573, 961987163, 1508970993, 2453635748, 2870763221, 3624381080, 310598401, 607225278, 1426881987, 1925078388, 2162078206, 2614888103, 3248222580, 3835390401, 4022224774, 264347078, 604807628, 770255983, 1249150122, 1555081692, 1996064986, 2554220882, 2821834349, 2952996808, 3210313671, 3336571891, 3584528711, 113926993, 338241895, 666307205, 773529912, 1294757372, 1396182291, 1695183700, 1986661051, 2177026350, 2456956037, 2730485921, 2820302411, 3259730800, 3345764771, 3516065817, 3600352804, 4094571909, 275423344, 430227734, 506948616, 659060556, 883997877, 958139571, 1322822218, 1537002063, 1747873779, 1955562222, 2024104815, 2227730452, 2361852424, 2428436474, 2756734187, 3204031479, 3329325298] : List Int)) (List.replicate 64 0) 0) = some r := h
 clear h
 obtain ⟨y174, hy174⟩ : ∃ y_ : List Int, y_ = (([1116352408, 1899447441, 3049323471, 3921009573, 961987163, 1508970993, 2453635748, 2870763221, 3624381080, 310598401, 607225278, 1426881987, 1925078388, 2162078206, 2614888103, 3248222580, 3835390401, 4022224774, 264347078, 604807628, 770255983, 1249150122, 1555081692, 1996064986, 2554220882, 2821834349, 2952996808, 3210313671, 3336571891, 3584528711, 113926993, 338241895, 666307205, 773529912, 1294757372, 1396182291, 1695183700, 1986661051, 2177026350, 2456956037, 2730485921, 2820302411, 3259730800, 3345764771, 3516065817, 3600352804, 4094571909, 275423344, 430227734, 506948616, 659060556, 883997877, 958139571, 1322822218, 1537002063, 1747873779, 1955562222, 2024104815, 2227730452, 2361852424, 2428436474, 2756734187, 3204031479, 3329325298] : List Int)) := ⟨_, rfl⟩
 replace H : (certpathref01_round.l0 k l0 a1 y174 (List.replicate 64 0) 0) = some r := by first | (rw [hy174]; with_reducible exact H) | (have H2_ := (Option.bind_some _ _).symm.trans H; rw [hy174]; with_reducible exact H2_) | (have H2_ := (Option.bind_some _ _).symm.trans H; with_reducible exact H2_) | with_reducible exact H | (rw [hy174]; exact H) | exact H
 have Ny174 := Aside0.mk hy174
 clear hy174
 obtain ⟨y177, hy177⟩ : ∃ y_ : List Int, y_ = (List.replicate 64 0) := ⟨_, rfl⟩
 replace H : (certpathref01_round.l0 k l0 a1 y174 y177 0) = some r := by first | (rw [hy177]; with_reducible exact H) | (have H2_ := (Option.bind_some _ _).symm.trans H; rw [hy177]; with_reducible exact H2_) | (have H2_ := (Option.bind_some _ _).symm.trans H; with_reducible exact H2_) | with_reducible exact H | (rw [hy177]; exact H) | exact H
 have Ny177 := Aside0.mk hy177
 clear hy177
 have H' := Aside0.mk H
 clear H
 go_enter Try.func22, Try.ntmps22
 go_wp2_with (first | ((with_reducible refine gate_dst (N := 26) rfl ?_); refine Kd.R_lit (Kd.int .u32) _ 35 ?hg (N := 26) ?hd (xs := ([1116352408, 1899447441, 3049323471, 3921009573, 961987163, 1508970993, 2453635748, 2870763221, 3624381080, 310598401, 607225278, 1426881987, 1925078388, 2162078206, 2614888103, 3248222580, 3835390401, 4022224774, 264347078, 604807628, 770255983, 1249150122, 1555081692, 1996064986, 2554220882, 2821834349, 2952996808, 3210313671, 3336571891, 3584528711, 113926993, 338241895, 666307205, 773529912, 1294757372, 1396182291, 1695183700, 1986661051, 2177026350, 2456956037, 2730485921, 2820302411, 3259730800, 3345764771, 3516065817, 3600352804, 4094571909, 275423344, 430227734, 506948616, 659060556, 883997877, 958139571, 1322822218, 1537002063, 1747873779, 1955562222, 2024104815, 2227730452, 2361852424, 2428436474, 2756734187, 3204031479, 3329325298] : List Int)) (inner := [.int .u32 1116352408, .int .u32 1899447441, .int .u32 3049323471, .int .u32 3921009573, .int .u32 961987163, .int .u32 1508970993, .int .u32 2453635748, .int .u32 2870763221, .int .u32 3624381080, .int .u32 310598401, .int .u32 607225278, .int .u32 1426881987, .int .u32 1925078388, .int .u32 2162078206, .int .u32 2614888103, .int .u32 3248222580, .int .u32 3835390401, .int .u32 4022224774, .int .u32 264347078, .int .u32 604807628, .int .u32 770255983, .int .u32 1249150122, .int .u32 1555081692, .int .u32 1996064986, .int .u32 2554220882, .int .u32 2821834349, .int .u32 2952996808, .int .u32 3210313671, .int .u32 3336571891, .int .u32 3584528711, .int .u32 113926993, .int .u32 338241895, .int .u32 666307205, .int .u32 773529912, .int .u32 1294757372, .int .u32 1396182291, .int .u32 1695183700, .int .u32 1986661051, .int .u32 2177026350, .int .u32 2456956037, .int .u32 2730485921, .int .u32 2820302411, .int .u32 3259730800, .int .u32 3345764771, .int .u32 3516065817, .int .u32 3600352804, .int .u32 4094571909, .int .u32 275423344, .int .u32 430227734, .int .u32 506948616, .int .u32 659060556, .int .u32 883997877, .int .u32 958139571, .int .u32 1322822218, .int .u32 1537002063, .int .u32 1747873779, .int .u32 1955562222, .int .u32 2024104815, .int .u32 2227730452, .int .u32 2361852424, .int .u32 2428436474, .int .u32 2756734187, .int .u32 3204031479, .int .u32 3329325298]) (ok := fun _ => True) (okp := fun _ => True) ?hr ?hp (fun _ hk => hk) trivial (Below.refl _ _) (Nat.le_refl _) (by simp) ?_; (case hd => rfl); (case hg => rfl); (case hr => first | kernel_rfl | (go_simp; done) | (go_simp; rfl)); (case hp => exact (Reps.one (show Kd.M (Kd.int .u32) _ _ _ 1116352408 [.int .u32 1116352408] from rfl) (Reps.one (show Kd.M (Kd.int .u32) _ _ _ 1899447441 [.int .u32 1899447441] from rfl) (Reps.one (show Kd.M (Kd.int .u32) _ _ _ 3049323471 [.int .u32 3049323471] from rfl) (Reps.one (show Kd.M (Kd.int .u32) _ _ _ 3921009573 [.int .u32 3921009573] from rfl) (Reps.one (show Kd.M (Kd.int .u32) _ _ _ 961987163 [.int .u32 961987163] from rfl) (Reps.one (show Kd.M (Kd.int .u32) _ _ _ 1508970993 [.int .u32 1508970993] from rfl) (Reps.one (show Kd.M (Kd.int .u32) _ _ _ 2453635748 [.int .u32 2453635748] from rfl) (Reps.one (show Kd.M (Kd.int .u32) _ _ _ 2870763221 [.int .u32 2870763221] from rfl) (Reps.one (show Kd.M (Kd.int .u32) _ _ _ 3624381080 [.int .u32 3624381080] from rfl) (Reps.one (show Kd.M (Kd.int .u32) _ _ _ 310598401 [.int .u32 310598401] from rfl) (Reps.one (show Kd.M (Kd.int .u32) _ _ _ 607225278 [.int .u32 607225278] from rfl) (Reps.one (show Kd.M (Kd.int .u32) _ _ _ 1426881987 [.int .u32 1426881987] from rfl) (Reps.one (show Kd.M (Kd.int .u32) _ _ _ 1925078388 [.int .u32 1925078388] from rfl) (Reps.one (show Kd.M (Kd.int .u32) _ _ _ 2162078206 [.int .u32 2162078206] from rfl) (Reps.one (show Kd.M (Kd.int .u32) _ _ _ 2614888103 [.int .u32 2614888103] from rfl) (Reps.one (show Kd.M (Kd.int .u32) _ _ _ 3248222580 [.int .u32 3248222580] from rfl) (Reps.one (show Kd.M (Kd.int .u32) _ _ _ 3835390401 [.int .u32 3835390401] from rfl) (Reps.one (show Kd.M (Kd.int .u32) _ _ _ 4022224774 [.int .u32 4022224774] from rfl) (Reps.one (show Kd.M (Kd.int .u32) _ _ _ 264347078 [.int .u32 264347078] from rfl) (Reps.one (show Kd.M (Kd.int .u32) _ _ _ 604807628 [.int .u32 604807628] from rfl) (Reps.one (show Kd.M (Kd.int .u32) _ _ _ 770255983 [.int .u32 770255983] from rfl) (Reps.one (show Kd.M (Kd.int .u32) _ _ _ 1249150122 [.int .u32 1249150122] from rfl) (Reps.one (show Kd.M (Kd.int .u32) _ _ _ 1555081692 [.int .u32 1555081692] from rfl) (Reps.one (show Kd.M (Kd.int .u32) _ _ _ 1996064986 [.int .u32 1996064986] from rfl) (Reps.one (show Kd.M (Kd.int .u32) _ _ _ 2554220882 [.int .u32 2554220882] from rfl) (Reps.one (show Kd.M (Kd.int .u32) _ _ _ 2821834349 [.int .u32 2821834349] from rfl) (Reps.one (show Kd.M (Kd.int .u32) _ _ _ 2952996808 [.int .u32 2952996808] from rfl) (Reps.one (show Kd.M (Kd.int .u32) _ _ _ 3210313671 [.int .u32 3210313671] from rfl) (Reps.one (show Kd.M (Kd.int .u32) _ _ _ 3336571891 [.int .u32 3336571891] from rfl) (Reps.one (show Kd.M (Kd.int .u32) _ _ _ 3584528711 [.int .u32 3584528711] from rfl) (Reps.one (show Kd.M (Kd.int .u32) _ _ _ 113926993 [.int .u32 113926993] from rfl) (Reps.one (show Kd.M (Kd.int .u32) _ _ _ 338241895 [.int .u32 338241895] from rfl) (Reps.one (show Kd.M (Kd.int .u32) _ _ _ 666307205 [.int .u32 666307205] from rfl) (Reps.one (show Kd.M (Kd.int .u32) _ _ _ 773529912 [.int .u32 773529912] from rfl) (Reps.one (show Kd.M (Kd.int .u32) _ _ _ 1294757372 [.int .u32 1294757372] from rfl) (Reps.one (show Kd.M (Kd.int .u32) _ _ _ 1396182291 [.int .u32 1396182291] from rfl) (Reps.one (show Kd.M (Kd.int .u32) _ _ _ 1695183700 [.int .u32 1695183700] from rfl) (Reps.one (show Kd.M (Kd.int .u32) _ _ _ 1986661051 [.int .u32 1986661051] from rfl) (Reps.one (show Kd.M (Kd.int .u32) _ _ _ 2177026350 [.int .u32 2177026350] from rfl) (Reps.one (show Kd.M (Kd.int .u32) _ _ _ 2456956037 [.int .u32 2456956037] from rfl) (Reps.one (show Kd.M (Kd.int .u32) _ _ _ 2730485921 [.int .u32 2730485921] from rfl) (Reps.one (show Kd.M (Kd.int .u32) _ _ _ 2820302411 [.int .u32 2820302411] from rfl) (Reps.one (show Kd.M (Kd.int .u32) _ _ _ 3259730800 [.int .u32 3259730800] from rfl) (Reps.one (show Kd.M (Kd.int .u32) _ _ _ 3345764771 [.int .u32 3345764771] from rfl) (Reps.one (show Kd.M (Kd.int .u32) _ _ _ 3516065817 [.int .u32 3516065817] from rfl) (Reps.one (show Kd.M (Kd.int .u32) _ _ _ 3600352804 [.int .u32 3600352804] from rfl) (Reps.one (show Kd.M (Kd.int .u32) _ _ _ 4094571909 [.int .u32 4094571909] from rfl) (Reps.one (show Kd.M (Kd.int .u32) _ _ _ 275423344 [.int .u32 275423344] from rfl) (Reps.one (show Kd.M (Kd.int .u32) _ _ _ 430227734 [.int .u32 430227734] from rfl) (Reps.one (show Kd.M (Kd.int .u32) _ _ _ 506948616 [.int .u32 506948616] from rfl) (Reps.one (show Kd.M (Kd.int .u32) _ _ _ 659060556 [.int .u32 659060556] from rfl) (Reps.one (show Kd.M (Kd.int .u32) _ _ _ 883997877 [.int .u32 883997877] from rfl) (Reps.one (show Kd.M (Kd.int .u32) _ _ _ 958139571 [.int .u32 958139571] from rfl) (Reps.one (show Kd.M (Kd.int .u32) _ _ _ 1322822218 [.int .u32 1322822218] from rfl) (Reps.one (show Kd.M (Kd.int .u32) _ _ _ 1537002063 [.int .u32 1537002063] from rfl) (Reps.one (show Kd.M (Kd.int .u32) _ _ _ 1747873779 [.int .u32 1747873779] from rfl) (Reps.one (show Kd.M (Kd.int .u32) _ _ _ 1955562222 [.int .u32 1955562222] from rfl) (Reps.one (show Kd.M (Kd.int .u32) _ _ _ 2024104815 [.int .u32 2024104815] from rfl) (Reps.one (show Kd.M (Kd.int .u32) _ _ _ 2227730452 [.int .u32 2227730452] from rfl) (Reps.one (show Kd.M (Kd.int .u32) _ _ _ 2361852424 [.int .u32 2361852424] from rfl) (Reps.one (show Kd.M (Kd.int .u32) _ _ _ 2428436474 [.int .u32 2428436474] from rfl) (Reps.one (show Kd.M (Kd.int .u32) _ _ _ 2756734187 [.int .u32 2756734187] from rfl) (Reps.one (show Kd.M (Kd.int .u32) _ _ _ 3204031479 [.int .u32 3204031479] from rfl) (Reps.one (show Kd.M (Kd.int .u32) _ _ _ 3329325298 [.int .u32 3329325298] from rfl) (Reps.none _ _)))))))))))))))))))))))))))))))))))))))))))))))))))))))))))))))))); intro v175 w3 ho4 hb hg_ hnew_; clear hg_ hnew_; (first | rw [← Ny174.out] at ho4 | (simp only [Int.reduceToNat] at ho4; rw [← Ny174.out] at ho4)); have n0_ := Aside0.mk (Kd.R_lower ho4 (below_size (by repeat (first | (with_reducible first | exact HB.out | apply below_alloc | apply pw_below_drewN | apply below_drew1) | exact HB.out)))); have n1_ := Aside0.mk (below_step (by repeat (first | (with_reducible first | exact HB.out | apply below_alloc | apply pw_below_drewN | apply below_drew1) | exact HB.out)) hb); clear HB; have HO176 := n0_; have HB := n1_; clear n0_ n1_; clear hb ho4) | ((with_reducible refine gate_dst (N := 6) rfl ?_); refine Ext.R_alloc (Kd.int .u32) _ 52 ?hg (N := 6) ?hd (xs := (List.replicate 64 0)) (inner := List.replicate 64 (.int .u32 0)) (ok := fun _ => True) (okp := fun _ => True) ?hr (Ext.reps_zeros .u32 64 _ _ _) (fun _ hk => hk) trivial (Below.refl _ _) (Nat.le_refl _) (by simp) ?_; (case hd => rfl); (case hg => rfl); (case hr => first | (go_simp; done) | (go_simp; rfl)); intro go7 w5 ho6 hb hg_ hnew_; clear hg_; (simp only [List.length_replicate] at ho6); rw [← Ny177.out] at ho6; have GB7 := Aside0.mk (show w.heap.size ≤ go7 from Nat.le_trans (below_size (by repeat (first | (with_reducible first | exact HB.out | apply below_alloc | apply pw_below_drewN | apply below_drew1) | exact HB.out))) hnew_); have n0_ := Aside0.mk (Kd.R_below (by (with_reducible repeat (first | apply Kd.R_alloc | apply Kd.R_drewN | apply Kd.R_drew)); exact HO176.out) hb); have n1_ := Aside0.mk (Kd.R_lower ho6 (below_size (by repeat (first | (with_reducible first | exact HB.out | apply below_alloc | apply pw_below_drewN | apply below_drew1) | exact HB.out)))); have n2_ := Aside0.mk (below_step (by repeat (first | (with_reducible first | exact HB.out | apply below_alloc | apply pw_below_drewN | apply below_drew1) | exact HB.out)) hb); clear HO176; clear HB; have HO176 := n0_; have HO179 := n1_; have HB := n2_; clear n0_ n1_ n2_; clear hb hnew_ ho6))
 go_loopg [7] k (fun kq v7 w' => ∃ (x6_1 : List Int) (x7_1 : Int), v7 = .int .i64 x7_1 ∧ Aside0 (certpathref01_round.l0 kq l0 a1 y174 x6_1 x7_1 = some r) ∧ Aside0 (kq ≤ k) ∧ Aside0 (Kd.R (Kd.int .u32) 35 w' w.heap.size (fun _ => True) v175 y174) ∧ Aside0 (Kd.R (Kd.int .u32) 52 w' w.heap.size (fun _ => True) (.slice (some ⟨go7, 0, none⟩) 64 64) x6_1) ∧ Aside0 (Below w.heap.size w w'))
 case atStart => exact ⟨(y177), (0), (by first | rfl | (simp; done) | (simp [*]; done)), H', ⟨Nat.le_refl _⟩, ⟨by (with_reducible repeat (first | apply Kd.R_alloc | apply Kd.R_drewN | apply Kd.R_drew)); exact HO176.out⟩, ⟨by (with_reducible repeat (first | apply Kd.R_alloc | apply Kd.R_drewN | apply Kd.R_drew)); exact HO179.out⟩, ⟨by repeat (first | (with_reducible first | exact HB.out | apply below_alloc | apply pw_below_drewN | apply below_drew1) | exact HB.out)⟩⟩
 case round =>
  clear H'
  try clear c2
  try clear p2
  obtain ⟨x6_1, x7_1, rfl, HA, HK1, HO_5, HO_6, HB⟩ := hrel
  cases gk with
  | zero => exact absurd HA.out (by simp [certpathref01_round.l0])
  | succ k1 =>
   have H := HA.out
   clear HA
   simp only [certpathref01_round.l0] at H
   by_cases c8 : x7_1 < 16
   ·rw [if_pos c8] at H
    have c8b0 : decide (x7_1 < 16) = true := decide_eq_true c8
    clear c8
    obtain ⟨ji9, hji9⟩ : ∃ j_ : Int, (wrap64 (4 * x7_1)) = j_ := ⟨_, rfl⟩
    replace H : (if 0 ≤ (ji9) then (if (ji9) < (a1.size : Int) then (if 0 ≤ (wrap64 ((ji9) + 1)) then (if (wrap64 ((ji9) + 1)) < (a1.size : Int) then (if 0 ≤ (wrap64 ((ji9) + 2)) then (if (wrap64 ((ji9) + 2)) < (a1.size : Int) then (if 0 ≤ (wrap64 ((ji9) + 3)) then (if (wrap64 ((ji9) + 3)) < (a1.size : Int) then (if 0 ≤ x7_1 then (if x7_1 < (64 : Int) then (certpathref01_round.l0 k1 l0 a1 y174 (x6_1.set (x7_1 : Int).toNat (Go.bits .or .u32 (Go.bits .or .u32 (Go.bits .or .u32 ((((bt a1 (ji9)) % 4294967296) * 16777216) % 4294967296) ((((bt a1 (wrap64 ((ji9) + 1))) % 4294967296) * 65536) % 4294967296)) ((((bt a1 (wrap64 ((ji9) + 2))) % 4294967296) * 256) % 4294967296)) ((bt a1 (wrap64 ((ji9) + 3))) % 4294967296))) (wrap64 (x7_1 + 1))) else (none)) else (none)) else (none)) else (none)) else (none)) else (none)) else (none)) else (none)) else (none)) else (none)) = some r := by first | (rw [hji9] at H; exact H) | (simp only [hji9] at H ⊢; exact H)
    have hji9w : (IntKind.i64.wrap (4 * x7_1)) = ji9 := (i64_w _).trans hji9
    by_cases c10 : 0 ≤ (ji9)
    ·rw [if_pos c10] at H
     have c10b0 : decide (0 ≤ (ji9)) = true := decide_eq_true c10
     clear c10
     by_cases c11 : (ji9) < (a1.size : Int)
     ·rw [if_pos c11] at H
      have c11b0 : decide ((ji9) < (a1.size : Int)) = true := decide_eq_true c11
      clear c11
      obtain ⟨ji13, hji13⟩ : ∃ j_ : Int, (wrap64 ((ji9) + 1)) = j_ := ⟨_, rfl⟩
      replace H : (if 0 ≤ (ji13) then (if (ji13) < (a1.size : Int) then (if 0 ≤ (wrap64 ((ji9) + 2)) then (if (wrap64 ((ji9) + 2)) < (a1.size : Int) then (if 0 ≤ (wrap64 ((ji9) + 3)) then (if (wrap64 ((ji9) + 3)) < (a1.size : Int) then (if 0 ≤ x7_1 then (if x7_1 < (64 : Int) then (certpathref01_round.l0 k1 l0 a1 y174 (x6_1.set (x7_1 : Int).toNat (Go.bits .or .u32 (Go.bits .or .u32 (Go.bits .or .u32 ((((bt a1 (ji9)) % 4294967296) * 16777216) % 4294967296) ((((bt a1 (ji13)) % 4294967296) * 65536) % 4294967296)) ((((bt a1 (wrap64 ((ji9) + 2))) % 4294967296) * 256) % 4294967296)) ((bt a1 (wrap64 ((ji9) + 3))) % 4294967296))) (wrap64 (x7_1 + 1))) else (none)) else (none)) else (none)) else (none)) else (none)) else (none)) else (none)) else (none)) = some r := by first | (rw [hji13] at H; exact H) | (simp only [hji13] at H ⊢; exact H)
      have hji13w : (IntKind.i64.wrap ((ji9) + 1)) = ji13 := (i64_w _).trans hji13
      by_cases c14 : 0 ≤ (ji13)
      ·rw [if_pos c14] at H
       have c14b0 : decide (0 ≤ (ji13)) = true := decide_eq_true c14
       clear c14
       by_cases c15 : (ji13) < (a1.size : Int)
       ·rw [if_pos c15] at H
        have c15b0 : decide ((ji13) < (a1.size : Int)) = true := decide_eq_true c15
        clear c15
        obtain ⟨ji17, hji17⟩ : ∃ j_ : Int, (wrap64 ((ji9) + 2)) = j_ := ⟨_, rfl⟩
        replace H : (if 0 ≤ (ji17) then (if (ji17) < (a1.size : Int) then (if 0 ≤ (wrap64 ((ji9) + 3)) then (if (wrap64 ((ji9) + 3)) < (a1.size : Int) then (if 0 ≤ x7_1 then (if x7_1 < (64 : Int) then (certpathref01_round.l0 k1 l0 a1 y174 (x6_1.set (x7_1 : Int).toNat (Go.bits .or .u32 (Go.bits .or .u32 (Go.bits .or .u32 ((((bt a1 (ji9)) % 4294967296) * 16777216) % 4294967296) ((((bt a1 (ji13)) % 4294967296) * 65536) % 4294967296)) ((((bt a1 (ji17)) % 4294967296) * 256) % 4294967296)) ((bt a1 (wrap64 ((ji9) + 3))) % 4294967296))) (wrap64 (x7_1 + 1))) else (none)) else (none)) else (none)) else (none)) else (none)) else (none)) = some r := by first | (rw [hji17] at H; exact H) | (simp only [hji17] at H ⊢; exact H)
        have hji17w : (IntKind.i64.wrap ((ji9) + 2)) = ji17 := (i64_w _).trans hji17
        by_cases c18 : 0 ≤ (ji17)
        ·rw [if_pos c18] at H
         have c18b0 : decide (0 ≤ (ji17)) = true := decide_eq_true c18
         clear c18
         by_cases c19 : (ji17) < (a1.size : Int)
         ·rw [if_pos c19] at H
          have c19b0 : decide ((ji17) < (a1.size : Int)) = true := decide_eq_true c19
          clear c19
          obtain ⟨ji21, hji21⟩ : ∃ j_ : Int, (wrap64 ((ji9) + 3)) = j_ := ⟨_, rfl⟩
          replace H : (if 0 ≤ (ji21) then (if (ji21) < (a1.size : Int) then (if 0 ≤ x7_1 then (if x7_1 < (64 : Int) then (certpathref01_round.l0 k1 l0 a1 y174 (x6_1.set (x7_1 : Int).toNat (Go.bits .or .u32 (Go.bits .or .u32 (Go.bits .or .u32 ((((bt a1 (ji9)) % 4294967296) * 16777216) % 4294967296) ((((bt a1 (ji13)) % 4294967296) * 65536) % 4294967296)) ((((bt a1 (ji17)) % 4294967296) * 256) % 4294967296)) ((bt a1 (ji21)) % 4294967296))) (wrap64 (x7_1 + 1))) else (none)) else (none)) else (none)) else (none)) = some r := by first | (rw [hji21] at H; exact H) | (simp only [hji21] at H ⊢; exact H)
          have hji21w : (IntKind.i64.wrap ((ji9) + 3)) = ji21 := (i64_w _).trans hji21
          by_cases c22 : 0 ≤ (ji21)
          ·rw [if_pos c22] at H
           have c22b0 : decide (0 ≤ (ji21)) = true := decide_eq_true c22
           clear c22
           by_cases c23 : (ji21) < (a1.size : Int)
           ·rw [if_pos c23] at H
            have c23b0 : decide ((ji21) < (a1.size : Int)) = true := decide_eq_true c23
            clear c23
            by_cases c25 : 0 ≤ x7_1
            ·rw [if_pos c25] at H
             have c25b0 : decide (0 ≤ x7_1) = true := decide_eq_true c25
             clear c25
             by_cases c26 : x7_1 < (64 : Int)
             ·rw [if_pos c26] at H
              have c26b0 : decide (x7_1 < (64 : Int)) = true := decide_eq_true c26
              clear c26
              obtain ⟨y180, hy180⟩ : ∃ y_ : List Int, y_ = (x6_1.set (x7_1 : Int).toNat (Go.bits .or .u32 (Go.bits .or .u32 (Go.bits .or .u32 ((((bt a1 (ji9)) % 4294967296) * 16777216) % 4294967296) ((((bt a1 (ji13)) % 4294967296) * 65536) % 4294967296)) ((((bt a1 (ji17)) % 4294967296) * 256) % 4294967296)) ((bt a1 (ji21)) % 4294967296))) := ⟨_, rfl⟩
              replace H : (certpathref01_round.l0 k1 l0 a1 y174 y180 (wrap64 (x7_1 + 1))) = some r := by first | (rw [hy180]; with_reducible exact H) | (have H2_ := (Option.bind_some _ _).symm.trans H; rw [hy180]; with_reducible exact H2_) | (have H2_ := (Option.bind_some _ _).symm.trans H; with_reducible exact H2_) | with_reducible exact H | (rw [hy180]; exact H) | exact H
              have Ny180 := Aside0.mk hy180
              clear hy180
              have H' := Aside0.mk H
              clear H
              try go_wp2
              have n0_ := Aside0.mk (Kd.R_drew HO_5.out)
              have n1_ := Aside0.mk (Kd.R_drew HO_6.out)
              have n2_ := Aside0.mk (below_drew1 HB.out)
              clear HO_5
              clear HO_6
              clear HB
              have HO_5 := n0_
              have HO_6 := n1_
              have HB := n2_
              clear n0_ n1_ n2_
              have p12 : 0 ≤ ((ji9) : Int) := of_decide_eq_true (by first | (with_reducible assumption) | assumption)
              have q12 : (ji9) < (a1.size : Int) := of_decide_eq_true (by first | (with_reducible assumption) | assumption)
              have hx12 := bt_at a1 (ji9)
              replace p12 := eq_true p12
              replace q12 := eq_true q12
              have p16 : 0 ≤ ((ji13) : Int) := of_decide_eq_true (by first | (with_reducible assumption) | assumption)
              have q16 : (ji13) < (a1.size : Int) := of_decide_eq_true (by first | (with_reducible assumption) | assumption)
              have hx16 := bt_at a1 (ji13)
              replace p16 := eq_true p16
              replace q16 := eq_true q16
              have p20 : 0 ≤ ((ji17) : Int) := of_decide_eq_true (by first | (with_reducible assumption) | assumption)
              have q20 : (ji17) < (a1.size : Int) := of_decide_eq_true (by first | (with_reducible assumption) | assumption)
              have hx20 := bt_at a1 (ji17)
              replace p20 := eq_true p20
              replace q20 := eq_true q20
              have p24 : 0 ≤ ((ji21) : Int) := of_decide_eq_true (by first | (with_reducible assumption) | assumption)
              have q24 : (ji21) < (a1.size : Int) := of_decide_eq_true (by first | (with_reducible assumption) | assumption)
              have hx24 := bt_at a1 (ji21)
              replace p24 := eq_true p24
              replace q24 := eq_true q24
              have p27 : 0 ≤ (x7_1 : Int) := of_decide_eq_true (by first | (with_reducible assumption) | assumption)
              have q27 : (x7_1 : Int) < ((64 : Int) : Int) := of_decide_eq_true (by first | (with_reducible assumption) | assumption)
              obtain ⟨cl27, HG27⟩ := Ext.arr_typed HO_6.out (by decide)
              have GG7 := Aside0.mk HG27
              clear HG27
              obtain ⟨hx27_0, hf27_0⟩ := Kd.R_celln 0 HO_6.out (x7_1 : Int) p27 q27
              replace p27 := eq_true p27
              replace q27 := eq_true q27
              have HP29 := Kd.R_putn HO_6.out (x7_1 : Int) (Go.bits .or .u32 (Go.bits .or .u32 (Go.bits .or .u32 ((((bt a1 (ji9)) % 4294967296) * 16777216) % 4294967296) ((((bt a1 (ji13)) % 4294967296) * 65536) % 4294967296)) ((((bt a1 (ji17)) % 4294967296) * 256) % 4294967296)) ((bt a1 (ji21)) % 4294967296))
              rw [← Ny180.out] at HP29
              have HQ29 := Aside0.mk HP29
              clear HP29
              refine start_ (n := 32) (S := fun w' => True) (ds := [31]) #[false, false, false, false, false, false, false, false, false, false, false, false, false, false, false, false, false, false, false, false, false, false, false, false, false, false, false, false, false, false, false, false] (by kernel_rfl) rfl rfl trivial (fun hHeld => ?_); refine with_tabW certpathref01_round.tab6 certpathref01_round.bits6 (fun HT_ HW_ => ?_)
              generalize wr.drew = w28 at HO_5 HO_6 HB GG7 HQ29 hf27_0 hx27_0 hHeld ⊢
              refine pure_ (i := 0) (N := some 31) (v := ?_) (a' := ?_) #[true, false, false, false, false, false, false, false, false, false, false, false, false, false, false, false, false, false, false, false, false, false, false, false, false, false, false, false, false, false, false, false] rfl rfl (any_of HT_.out (by kernel_rfl)) (fun _ _ _ h => h) (Or.inl ⟨by rfl, ?_⟩) ?_ ?_
              rotate_left; (intro w'; go_simp; with_reducible rfl); rotate_left; (simp only [Act.put, List.setIfInBounds_toArray, List.set_cons_zero, List.set_cons_succ, i64_w, i32_w]; rfl)
              refine pure_ (i := 1) (N := some 32) (v := ?_) (a' := ?_) #[true, true, false, false, false, false, false, false, false, false, false, false, false, false, false, false, false, false, false, false, false, false, false, false, false, false, false, false, false, false, false, false] rfl rfl (any_of HT_.out (by kernel_rfl)) (fun _ _ _ h => h) (Or.inl ⟨by rfl, ?_⟩) ?_ ?_
              rotate_left; (intro w'; go_simp; with_reducible rfl); rotate_left; (simp only [Act.put, List.setIfInBounds_toArray, List.set_cons_zero, List.set_cons_succ, i64_w, i32_w]; rfl)
              refine pure_ (i := 2) (N := some 33) (v := ?_) (a' := ?_) #[true, true, true, false, false, false, false, false, false, false, false, false, false, false, false, false, false, false, false, false, false, false, false, false, false, false, false, false, false, false, false, false] rfl rfl (any_of HT_.out (by kernel_rfl)) (fun _ _ _ h => h) (Or.inl ⟨by rfl, ?_⟩) ?_ ?_
              rotate_left; (intro w'; go_simp; with_reducible rfl); rotate_left; (simp only [Act.put, List.setIfInBounds_toArray, List.set_cons_zero, List.set_cons_succ, i64_w, i32_w]; rfl)
              refine pure_ (i := 3) (N := some 34) (v := ?_) (a' := ?_) #[true, true, true, true, false, false, false, false, false, false, false, false, false, false, false, false, false, false, false, false, false, false, false, false, false, false, false, false, false, false, false, false] rfl rfl (any_of HT_.out (by kernel_rfl)) (fun _ _ _ h => h) (Or.inl ⟨by rfl, ?_⟩) ?_ ?_
              rotate_left; (intro w'; go_simp; with_reducible rfl); rotate_left; (simp only [Act.put, List.setIfInBounds_toArray, List.set_cons_zero, List.set_cons_succ, i64_w, i32_w]; rfl)
              refine pure_ (i := 7) (N := some 38) (v := ?_) (a' := ?_) #[true, true, true, true, false, false, false, true, false, false, false, false, false, false, false, false, false, false, false, false, false, false, false, false, false, false, false, false, false, false, false, false] rfl rfl (any_of HT_.out (by kernel_rfl)) (fun _ _ _ h => h) (Or.inl ⟨by rfl, ?_⟩) ?_ ?_
              rotate_left; (intro w'; go_simp; with_reducible rfl); rotate_left; (simp only [Act.put, List.setIfInBounds_toArray, List.set_cons_zero, List.set_cons_succ, i64_w, i32_w]; rfl)
              refine pure_ (i := 8) (N := some 39) (v := ?_) (a' := ?_) #[true, true, true, true, false, false, false, true, true, false, false, false, false, false, false, false, false, false, false, false, false, false, false, false, false, false, false, false, false, false, false, false] rfl rfl (any_of HT_.out (by kernel_rfl)) (fun _ _ _ h => h) (Or.inl ⟨by rfl, ?_⟩) ?_ ?_
              rotate_left; (intro w'; go_simp; with_reducible rfl); rotate_left; (simp only [Act.put, List.setIfInBounds_toArray, List.set_cons_zero, List.set_cons_succ, i64_w, i32_w]; rfl)
              refine pure_ (i := 9) (N := some 40) (v := ?_) (a' := ?_) #[true, true, true, true, false, false, false, true, true, true, false, false, false, false, false, false, false, false, false, false, false, false, false, false, false, false, false, false, false, false, false, false] rfl rfl (any_of HT_.out (by kernel_rfl)) (fun _ _ _ h => h) (Or.inl ⟨by rfl, ?_⟩) ?_ ?_
              rotate_left; (intro w'; go_simp; with_reducible rfl); rotate_left; (simp only [Act.put, List.setIfInBounds_toArray, List.set_cons_zero, List.set_cons_succ, i64_w, i32_w]; rfl)
              refine pure_ (i := 10) (N := some 41) (v := ?_) (a' := ?_) #[true, true, true, true, false, false, false, true, true, true, true, false, false, false, false, false, false, false, false, false, false, false, false, false, false, false, false, false, false, false, false, false] rfl rfl (any_of HT_.out (by kernel_rfl)) (fun _ _ _ h => h) (Or.inl ⟨by rfl, ?_⟩) ?_ ?_
              rotate_left; (intro w'; go_simp; with_reducible rfl); rotate_left; (simp only [Act.put, List.setIfInBounds_toArray, List.set_cons_zero, List.set_cons_succ, i64_w, i32_w]; rfl)
              refine pure_ (i := 15) (N := some 46) (v := ?_) (a' := ?_) #[true, true, true, true, false, false, false, true, true, true, true, false, false, false, false, true, false, false, false, false, false, false, false, false, false, false, false, false, false, false, false, false] rfl rfl (any_of HT_.out (by kernel_rfl)) (fun _ _ _ h => h) (Or.inl ⟨by rfl, ?_⟩) ?_ ?_
              rotate_left; (intro w'; go_simp; with_reducible rfl); rotate_left; (simp only [Act.put, List.setIfInBounds_toArray, List.set_cons_zero, List.set_cons_succ, i64_w, i32_w]; rfl)
              refine pure_ (i := 16) (N := some 47) (v := ?_) (a' := ?_) #[true, true, true, true, false, false, false, true, true, true, true, false, false, false, false, true, true, false, false, false, false, false, false, false, false, false, false, false, false, false, false, false] rfl rfl (any_of HT_.out (by kernel_rfl)) (fun _ _ _ h => h) (Or.inl ⟨by rfl, ?_⟩) ?_ ?_
              rotate_left; (intro w'; go_simp; with_reducible rfl); rotate_left; (simp only [Act.put, List.setIfInBounds_toArray, List.set_cons_zero, List.set_cons_succ, i64_w, i32_w]; rfl)
              refine pure_ (i := 17) (N := some 48) (v := ?_) (a' := ?_) #[true, true, true, true, false, false, false, true, true, true, true, false, false, false, false, true, true, true, false, false, false, false, false, false, false, false, false, false, false, false, false, false] rfl rfl (any_of HT_.out (by kernel_rfl)) (fun _ _ _ h => h) (Or.inl ⟨by rfl, ?_⟩) ?_ ?_
              rotate_left; (intro w'; go_simp; with_reducible rfl); rotate_left; (simp only [Act.put, List.setIfInBounds_toArray, List.set_cons_zero, List.set_cons_succ, i64_w, i32_w]; rfl)
              refine pure_ (i := 18) (N := some 49) (v := ?_) (a' := ?_) #[true, true, true, true, false, false, false, true, true, true, true, false, false, false, false, true, true, true, true, false, false, false, false, false, false, false, false, false, false, false, false, false] rfl rfl (any_of HT_.out (by kernel_rfl)) (fun _ _ _ h => h) (Or.inl ⟨by rfl, ?_⟩) ?_ ?_
              rotate_left; (intro w'; go_simp; with_reducible rfl); rotate_left; (simp only [Act.put, List.setIfInBounds_toArray, List.set_cons_zero, List.set_cons_succ, i64_w, i32_w]; rfl)
              refine pure_ (i := 23) (N := some 54) (v := ?_) (a' := ?_) #[true, true, true, true, false, false, false, true, true, true, true, false, false, false, false, true, true, true, true, false, false, false, false, true, false, false, false, false, false, false, false, false] rfl rfl (any_of HT_.out (by kernel_rfl)) (fun _ _ _ h => h) (Or.inl ⟨by rfl, ?_⟩) ?_ ?_
              rotate_left; (intro w'; go_simp; with_reducible rfl); rotate_left; (simp only [Act.put, List.setIfInBounds_toArray, List.set_cons_zero, List.set_cons_succ, i64_w, i32_w]; rfl)
              refine pure_ (i := 24) (N := some 55) (v := ?_) (a' := ?_) #[true, true, true, true, false, false, false, true, true, true, true, false, false, false, false, true, true, true, true, false, false, false, false, true, true, false, false, false, false, false, false, false] rfl rfl (any_of HT_.out (by kernel_rfl)) (fun _ _ _ h => h) (Or.inl ⟨by rfl, ?_⟩) ?_ ?_
              rotate_left; (intro w'; go_simp; with_reducible rfl); rotate_left; (simp only [Act.put, List.setIfInBounds_toArray, List.set_cons_zero, List.set_cons_succ, i64_w, i32_w]; rfl)
              refine pure_ (i := 25) (N := some 56) (v := ?_) (a' := ?_) #[true, true, true, true, false, false, false, true, true, true, true, false, false, false, false, true, true, true, true, false, false, false, false, true, true, true, false, false, false, false, false, false] rfl rfl (any_of HT_.out (by kernel_rfl)) (fun _ _ _ h => h) (Or.inl ⟨by rfl, ?_⟩) ?_ ?_
              rotate_left; (intro w'; go_simp; with_reducible rfl); rotate_left; (simp only [Act.put, List.setIfInBounds_toArray, List.set_cons_zero, List.set_cons_succ, i64_w, i32_w]; rfl)
              refine pure_ (i := 26) (N := some 57) (v := ?_) (a' := ?_) #[true, true, true, true, false, false, false, true, true, true, true, false, false, false, false, true, true, true, true, false, false, false, false, true, true, true, true, false, false, false, false, false] rfl rfl (any_of HT_.out (by kernel_rfl)) (fun _ _ _ h => h) (Or.inl ⟨by rfl, ?_⟩) ?_ ?_
              rotate_left; (intro w'; go_simp; with_reducible rfl); rotate_left; (simp only [Act.put, List.setIfInBounds_toArray, List.set_cons_zero, List.set_cons_succ, i64_w, i32_w]; rfl)
              refine take_ (i := 4) (N := some 35) (v := ?_) (a' := ?_) #[true, true, true, true, true, false, false, true, true, true, true, false, false, false, false, true, true, true, true, false, false, false, false, true, true, true, true, false, false, false, false, false] rfl rfl (take_ofW HT_.out HW_.out (by kernel_rfl)) (fun _ _ _ h => h) (Or.inl ⟨by rfl, ?_⟩) hHeld ?_ ?_
              rotate_left; (intro w' _; go_simp; with_reducible rfl); rotate_left; (simp only [Act.put, List.setIfInBounds_toArray, List.set_cons_zero, List.set_cons_succ, i64_w, i32_w]; rfl)
              refine pure_ (i := 5) (N := some 36) (v := ?_) (a' := ?_) #[true, true, true, true, true, true, false, true, true, true, true, false, false, false, false, true, true, true, true, false, false, false, false, true, true, true, true, false, false, false, false, false] rfl rfl (any_of HT_.out (by kernel_rfl)) (fun _ _ _ h => h) (Or.inl ⟨by rfl, ?_⟩) ?_ ?_
              rotate_left; (intro w'; go_simp; with_reducible rfl); rotate_left; (simp only [Act.put, List.setIfInBounds_toArray, List.set_cons_zero, List.set_cons_succ, i64_w, i32_w]; rfl)
              refine pure_ (i := 6) (N := some 37) (v := ?_) (a' := ?_) #[true, true, true, true, true, true, true, true, true, true, true, false, false, false, false, true, true, true, true, false, false, false, false, true, true, true, true, false, false, false, false, false] rfl rfl (any_of HT_.out (by kernel_rfl)) (fun _ _ _ h => h) (Or.inl ⟨by rfl, ?_⟩) ?_ ?_
              rotate_left; (intro w'; go_simp; with_reducible rfl); rotate_left; (simp only [Act.put, List.setIfInBounds_toArray, List.set_cons_zero, List.set_cons_succ, i64_w, i32_w]; rfl)
              refine take_ (i := 11) (N := some 42) (v := ?_) (a' := ?_) #[true, true, true, true, true, true, true, true, true, true, true, true, false, false, false, true, true, true, true, false, false, false, false, true, true, true, true, false, false, false, false, false] rfl rfl (take_ofW HT_.out HW_.out (by kernel_rfl)) (fun _ _ _ h => h) (Or.inl ⟨by rfl, ?_⟩) hHeld ?_ ?_
              rotate_left; (intro w' _; go_simp; with_reducible rfl); rotate_left; (simp only [Act.put, List.setIfInBounds_toArray, List.set_cons_zero, List.set_cons_succ, i64_w, i32_w]; rfl)
              refine pure_ (i := 12) (N := some 43) (v := ?_) (a' := ?_) #[true, true, true, true, true, true, true, true, true, true, true, true, true, false, false, true, true, true, true, false, false, false, false, true, true, true, true, false, false, false, false, false] rfl rfl (any_of HT_.out (by kernel_rfl)) (fun _ _ _ h => h) (Or.inl ⟨by rfl, ?_⟩) ?_ ?_
              rotate_left; (intro w'; go_simp; with_reducible rfl); rotate_left; (simp only [Act.put, List.setIfInBounds_toArray, List.set_cons_zero, List.set_cons_succ, i64_w, i32_w]; rfl)
              refine pure_ (i := 13) (N := some 44) (v := ?_) (a' := ?_) #[true, true, true, true, true, true, true, true, true, true, true, true, true, true, false, true, true, true, true, false, false, false, false, true, true, true, true, false, false, false, false, false] rfl rfl (any_of HT_.out (by kernel_rfl)) (fun _ _ _ h => h) (Or.inl ⟨by rfl, ?_⟩) ?_ ?_
              rotate_left; (intro w'; go_simp; with_reducible rfl); rotate_left; (simp only [Act.put, List.setIfInBounds_toArray, List.set_cons_zero, List.set_cons_succ, i64_w, i32_w]; rfl)
              refine pure_ (i := 14) (N := some 45) (v := ?_) (a' := ?_) #[true, true, true, true, true, true, true, true, true, true, true, true, true, true, true, true, true, true, true, false, false, false, false, true, true, true, true, false, false, false, false, false] rfl rfl (any_of HT_.out (by kernel_rfl)) (fun _ _ _ h => h) (Or.inl ⟨by rfl, ?_⟩) ?_ ?_
              rotate_left; (intro w'; go_simp; with_reducible rfl); rotate_left; (simp only [Act.put, List.setIfInBounds_toArray, List.set_cons_zero, List.set_cons_succ, i64_w, i32_w]; rfl)
              refine take_ (i := 19) (N := some 50) (v := ?_) (a' := ?_) #[true, true, true, true, true, true, true, true, true, true, true, true, true, true, true, true, true, true, true, true, false, false, false, true, true, true, true, false, false, false, false, false] rfl rfl (take_ofW HT_.out HW_.out (by kernel_rfl)) (fun _ _ _ h => h) (Or.inl ⟨by rfl, ?_⟩) hHeld ?_ ?_
              rotate_left; (intro w' _; go_simp; with_reducible rfl); rotate_left; (simp only [Act.put, List.setIfInBounds_toArray, List.set_cons_zero, List.set_cons_succ, i64_w, i32_w]; rfl)
              refine pure_ (i := 20) (N := some 51) (v := ?_) (a' := ?_) #[true, true, true, true, true, true, true, true, true, true, true, true, true, true, true, true, true, true, true, true, true, false, false, true, true, true, true, false, false, false, false, false] rfl rfl (any_of HT_.out (by kernel_rfl)) (fun _ _ _ h => h) (Or.inl ⟨by rfl, ?_⟩) ?_ ?_
              rotate_left; (intro w'; go_simp; with_reducible rfl); rotate_left; (simp only [Act.put, List.setIfInBounds_toArray, List.set_cons_zero, List.set_cons_succ, i64_w, i32_w]; rfl)
              refine pure_ (i := 21) (N := some 52) (v := ?_) (a' := ?_) #[true, true, true, true, true, true, true, true, true, true, true, true, true, true, true, true, true, true, true, true, true, true, false, true, true, true, true, false, false, false, false, false] rfl rfl (any_of HT_.out (by kernel_rfl)) (fun _ _ _ h => h) (Or.inl ⟨by rfl, ?_⟩) ?_ ?_
              rotate_left; (intro w'; go_simp; with_reducible rfl); rotate_left; (simp only [Act.put, List.setIfInBounds_toArray, List.set_cons_zero, List.set_cons_succ, i64_w, i32_w]; rfl)
              refine pure_ (i := 22) (N := some 53) (v := ?_) (a' := ?_) #[true, true, true, true, true, true, true, true, true, true, true, true, true, true, true, true, true, true, true, true, true, true, true, true, true, true, true, false, false, false, false, false] rfl rfl (any_of HT_.out (by kernel_rfl)) (fun _ _ _ h => h) (Or.inl ⟨by rfl, ?_⟩) ?_ ?_
              rotate_left; (intro w'; go_simp; with_reducible rfl); rotate_left; (simp only [Act.put, List.setIfInBounds_toArray, List.set_cons_zero, List.set_cons_succ, i64_w, i32_w]; rfl)
              refine take_ (i := 27) (N := some 58) (v := ?_) (a' := ?_) #[true, true, true, true, true, true, true, true, true, true, true, true, true, true, true, true, true, true, true, true, true, true, true, true, true, true, true, true, false, false, false, false] rfl rfl (take_ofW HT_.out HW_.out (by kernel_rfl)) (fun _ _ _ h => h) (Or.inl ⟨by rfl, ?_⟩) hHeld ?_ ?_
              rotate_left; (intro w' _; go_simp; with_reducible rfl); rotate_left; (simp only [Act.put, List.setIfInBounds_toArray, List.set_cons_zero, List.set_cons_succ, i64_w, i32_w]; rfl)
              refine pure_ (i := 28) (N := some 59) (v := ?_) (a' := ?_) #[true, true, true, true, true, true, true, true, true, true, true, true, true, true, true, true, true, true, true, true, true, true, true, true, true, true, true, true, true, false, false, false] rfl rfl (any_of HT_.out (by kernel_rfl)) (fun _ _ _ h => h) (Or.inl ⟨by rfl, ?_⟩) ?_ ?_
              rotate_left; (intro w'; go_simp; with_reducible rfl); rotate_left; (simp only [Act.put, List.setIfInBounds_toArray, List.set_cons_zero, List.set_cons_succ, i64_w, i32_w]; rfl)
              refine pure_ (i := 29) (N := some 60) (v := ?_) (a' := ?_) #[true, true, true, true, true, true, true, true, true, true, true, true, true, true, true, true, true, true, true, true, true, true, true, true, true, true, true, true, true, true, false, false] rfl rfl (any_of HT_.out (by kernel_rfl)) (fun _ _ _ h => h) (Or.inl ⟨by rfl, ?_⟩) ?_ ?_
              rotate_left; (intro w'; go_simp; with_reducible rfl); rotate_left; (simp only [Act.put, List.setIfInBounds_toArray, List.set_cons_zero, List.set_cons_succ, i64_w, i32_w]; rfl)
              refine pure_ (i := 30) (N := some 61) (v := ?_) (a' := ?_) #[true, true, true, true, true, true, true, true, true, true, true, true, true, true, true, true, true, true, true, true, true, true, true, true, true, true, true, true, true, true, true, false] rfl rfl (any_of HT_.out (by kernel_rfl)) (fun _ _ _ h => h) (Or.inl ⟨by rfl, ?_⟩) ?_ ?_
              rotate_left; (intro w'; go_simp; with_reducible rfl); rotate_left; (simp only [Act.put, List.setIfInBounds_toArray, List.set_cons_zero, List.set_cons_succ, i64_w, i32_w]; rfl)
              refine last_ (i := 31) (N := none) #[true, true, true, true, true, true, true, true, true, true, true, true, true, true, true, true, true, true, true, true, true, true, true, true, true, true, true, true, true, true, true, true] rfl rfl (one_of HT_.out (by kernel_rfl)) (by decide) (fun K hK => ?_)
              refine skip_ (w1 := ?_) (by rfl) rfl ?_ ?_
              rotate_left
              ·go_simp
               rfl
              refine hK.out _ _ ?_
              clear hK K
              refine done_ (done_of HT_.out (by kernel_rfl)) ?_
              try go_wp2
              go_roundg k1
              case measure => have := HK1.out; omega
              case rel => exact ⟨(y180), (wrap64 (x7_1 + 1)), (by first | rfl | (simp; done) | (simp [*]; done)), H', ⟨by have := HK1.out; omega⟩, ⟨by (with_reducible repeat (first | apply Kd.R_alloc | apply Kd.R_drewN | apply Kd.R_drew)); exact Kd.R_mono (Kd.R_far (p := ⟨go7, (x7_1 : Int).toNat, none⟩) (Kd.R_types HO_5.out GG7.out (by decide)) (fun _ hk => hk.2) (.int .u32 (Go.bits .or .u32 (Go.bits .or .u32 (Go.bits .or .u32 ((((bt a1 (ji9)) % 4294967296) * 16777216) % 4294967296) ((((bt a1 (ji13)) % 4294967296) * 65536) % 4294967296)) ((((bt a1 (ji17)) % 4294967296) * 256) % 4294967296)) ((bt a1 (ji21)) % 4294967296)))) (fun _ hk => trivial)⟩, ⟨by (with_reducible repeat (first | apply Kd.R_alloc | apply Kd.R_drewN | apply Kd.R_drew)); exact HQ29.out⟩, ⟨by repeat (first | (with_reducible first | exact HB.out | apply below_alloc | apply pw_below_drewN | apply below_drew1 | refine below_set ?_ GB7.out) | exact HB.out)⟩⟩
             ·rw [if_neg c26] at H
              exact absurd H (by simp)
            ·rw [if_neg c25] at H
             exact absurd H (by simp)
           ·rw [if_neg c23] at H
            exact absurd H (by simp)
          ·rw [if_neg c22] at H
           exact absurd H (by simp)
         ·rw [if_neg c19] at H
          exact absurd H (by simp)
        ·rw [if_neg c18] at H
         exact absurd H (by simp)
       ·rw [if_neg c15] at H
        exact absurd H (by simp)
      ·rw [if_neg c14] at H
       exact absurd H (by simp)
     ·rw [if_neg c11] at H
      exact absurd H (by simp)
    ·rw [if_neg c10] at H
     exact absurd H (by simp)
   ·rw [if_neg c8] at H
    have c8b0 : decide (x7_1 < 16) = false := decide_eq_false c8
    clear c8
    have H' := Aside0.mk H
    clear H
    go_wp2
    go_loopg [8] k1 (fun kq v8 w' => ∃ (x6_2 : List Int) (x8_2 : Int), v8 = .int .i64 x8_2 ∧ Aside0 (certpathref01_round.l1 kq l0 y174 x6_2 x8_2 = some r) ∧ Aside0 (kq ≤ k1) ∧ Aside0 (Kd.R (Kd.int .u32) 35 w' w.heap.size (fun _ => True) v175 y174) ∧ Aside0 (Kd.R (Kd.int .u32) 52 w' w.heap.size (fun _ => True) (.slice (some ⟨go7, 0, none⟩) 64 64) x6_2) ∧ Aside0 (Below w.heap.size w w'))
    case atStart => exact ⟨(x6_1), (16), (by first | rfl | (simp; done) | (simp [*]; done)), H', ⟨Nat.le_refl _⟩, ⟨by (with_reducible repeat (first | apply Kd.R_alloc | apply Kd.R_drewN | apply Kd.R_drew)); exact HO_5.out⟩, ⟨by (with_reducible repeat (first | apply Kd.R_alloc | apply Kd.R_drewN | apply Kd.R_drew)); exact HO_6.out⟩, ⟨by repeat (first | (with_reducible first | exact HB.out | apply below_alloc | apply pw_below_drewN | apply below_drew1) | exact HB.out)⟩⟩
    case round =>
     clear H'
     try clear c1
     try clear p1
     try clear q1
     try clear hx1
     try clear c2
     try clear p2
     try clear q2
     try clear hx2
     try clear hf2
     try clear p6
     try clear c8
     try clear c8b0
     try clear c10
     try clear c10b0
     try clear c11
     try clear c11b0
     try clear p12
     try clear q12
     try clear hx12
     try clear c14
     try clear c14b0
     try clear c15
     try clear c15b0
     try clear p16
     try clear q16
     try clear hx16
     try clear c18
     try clear c18b0
     try clear c19
     try clear c19b0
     try clear p20
     try clear q20
     try clear hx20
     try clear c22
     try clear c22b0
     try clear c23
     try clear c23b0
     try clear p24
     try clear q24
     try clear hx24
     try clear c25
     try clear c25b0
     try clear c26
     try clear c26b0
     try clear p27
     try clear q27
     try clear hx27
     try clear hf27
     try clear hx27_0
     try clear p12
     try clear p16
     try clear p2
     try clear p20
     try clear p24
     try clear p27
     try clear q12
     try clear q16
     try clear q20
     try clear q24
     try clear q27
     obtain ⟨x6_2, x8_2, rfl, HA, HK2, HO_5, HO_6, HB⟩ := hrel
     cases gk with
     | zero => exact absurd HA.out (by simp [certpathref01_round.l1])
     | succ k2 =>
      have H := HA.out
      clear HA
      simp only [certpathref01_round.l1] at H
      by_cases c30 : x8_2 < 64
      ·rw [if_pos c30] at H
       have c30b0 : decide (x8_2 < 64) = true := decide_eq_true c30
       clear c30
       obtain ⟨ji31, hji31⟩ : ∃ j_ : Int, (wrap64 (x8_2 - 15)) = j_ := ⟨_, rfl⟩
       replace H : (if 0 ≤ (ji31) then (if (ji31) < (64 : Int) then (if 0 ≤ (wrap64 (x8_2 - 2)) then (if (wrap64 (x8_2 - 2)) < (64 : Int) then (if 0 ≤ (wrap64 (x8_2 - 16)) then (if (wrap64 (x8_2 - 16)) < (64 : Int) then (if 0 ≤ (wrap64 (x8_2 - 7)) then (if (wrap64 (x8_2 - 7)) < (64 : Int) then (if 0 ≤ x8_2 then (if x8_2 < (64 : Int) then (certpathref01_round.l1 k2 l0 y174 (x6_2.set (x8_2 : Int).toNat (((((rd x6_2 (wrap64 (x8_2 - 16))) + (Go.bits .xor .u32 (Go.bits .xor .u32 (Go.bits .or .u32 ((rd x6_2 (ji31)) / 128) (((rd x6_2 (ji31)) * 33554432) % 4294967296)) (Go.bits .or .u32 ((rd x6_2 (ji31)) / 262144) (((rd x6_2 (ji31)) * 16384) % 4294967296))) ((rd x6_2 (ji31)) / 8))) + (rd x6_2 (wrap64 (x8_2 - 7)))) + (Go.bits .xor .u32 (Go.bits .xor .u32 (Go.bits .or .u32 ((rd x6_2 (wrap64 (x8_2 - 2))) / 131072) (((rd x6_2 (wrap64 (x8_2 - 2))) * 32768) % 4294967296)) (Go.bits .or .u32 ((rd x6_2 (wrap64 (x8_2 - 2))) / 524288) (((rd x6_2 (wrap64 (x8_2 - 2))) * 8192) % 4294967296))) ((rd x6_2 (wrap64 (x8_2 - 2))) / 1024))) % 4294967296)) (wrap64 (x8_2 + 1))) else (none)) else (none)) else (none)) else (none)) else (none)) else (none)) else (none)) else (none)) else (none)) else (none)) = some r := by first | (rw [hji31] at H; exact H) | (simp only [hji31] at H ⊢; exact H)
       have hji31w : (IntKind.i64.wrap (x8_2 - 15)) = ji31 := (i64_w _).trans hji31
       by_cases c32 : 0 ≤ (ji31)
       ·rw [if_pos c32] at H
        have c32b0 : decide (0 ≤ (ji31)) = true := decide_eq_true c32
        clear c32
        by_cases c33 : (ji31) < (64 : Int)
        ·rw [if_pos c33] at H
         have c33b0 : decide ((ji31) < (64 : Int)) = true := decide_eq_true c33
         clear c33
         obtain ⟨ji34, hji34⟩ : ∃ j_ : Int, (wrap64 (x8_2 - 2)) = j_ := ⟨_, rfl⟩
         replace H : (if 0 ≤ (ji34) then (if (ji34) < (64 : Int) then (if 0 ≤ (wrap64 (x8_2 - 16)) then (if (wrap64 (x8_2 - 16)) < (64 : Int) then (if 0 ≤ (wrap64 (x8_2 - 7)) then (if (wrap64 (x8_2 - 7)) < (64 : Int) then (if 0 ≤ x8_2 then (if x8_2 < (64 : Int) then (certpathref01_round.l1 k2 l0 y174 (x6_2.set (x8_2 : Int).toNat (((((rd x6_2 (wrap64 (x8_2 - 16))) + (Go.bits .xor .u32 (Go.bits .xor .u32 (Go.bits .or .u32 ((rd x6_2 (ji31)) / 128) (((rd x6_2 (ji31)) * 33554432) % 4294967296)) (Go.bits .or .u32 ((rd x6_2 (ji31)) / 262144) (((rd x6_2 (ji31)) * 16384) % 4294967296))) ((rd x6_2 (ji31)) / 8))) + (rd x6_2 (wrap64 (x8_2 - 7)))) + (Go.bits .xor .u32 (Go.bits .xor .u32 (Go.bits .or .u32 ((rd x6_2 (ji34)) / 131072) (((rd x6_2 (ji34)) * 32768) % 4294967296)) (Go.bits .or .u32 ((rd x6_2 (ji34)) / 524288) (((rd x6_2 (ji34)) * 8192) % 4294967296))) ((rd x6_2 (ji34)) / 1024))) % 4294967296)) (wrap64 (x8_2 + 1))) else (none)) else (none)) else (none)) else (none)) else (none)) else (none)) else (none)) else (none)) = some r := by first | (rw [hji34] at H; exact H) | (simp only [hji34] at H ⊢; exact H)
         have hji34w : (IntKind.i64.wrap (x8_2 - 2)) = ji34 := (i64_w _).trans hji34
         by_cases c35 : 0 ≤ (ji34)
         ·rw [if_pos c35] at H
          have c35b0 : decide (0 ≤ (ji34)) = true := decide_eq_true c35
          clear c35
          by_cases c36 : (ji34) < (64 : Int)
          ·rw [if_pos c36] at H
           have c36b0 : decide ((ji34) < (64 : Int)) = true := decide_eq_true c36
           clear c36
           obtain ⟨ji37, hji37⟩ : ∃ j_ : Int, (wrap64 (x8_2 - 16)) = j_ := ⟨_, rfl⟩
           replace H : (if 0 ≤ (ji37) then (if (ji37) < (64 : Int) then (if 0 ≤ (wrap64 (x8_2 - 7)) then (if (wrap64 (x8_2 - 7)) < (64 : Int) then (if 0 ≤ x8_2 then (if x8_2 < (64 : Int) then (certpathref01_round.l1 k2 l0 y174 (x6_2.set (x8_2 : Int).toNat (((((rd x6_2 (ji37)) + (Go.bits .xor .u32 (Go.bits .xor .u32 (Go.bits .or .u32 ((rd x6_2 (ji31)) / 128) (((rd x6_2 (ji31)) * 33554432) % 4294967296)) (Go.bits .or .u32 ((rd x6_2 (ji31)) / 262144) (((rd x6_2 (ji31)) * 16384) % 4294967296))) ((rd x6_2 (ji31)) / 8))) + (rd x6_2 (wrap64 (x8_2 - 7)))) + (Go.bits .xor .u32 (Go.bits .xor .u32 (Go.bits .or .u32 ((rd x6_2 (ji34)) / 131072) (((rd x6_2 (ji34)) * 32768) % 4294967296)) (Go.bits .or .u32 ((rd x6_2 (ji34)) / 524288) (((rd x6_2 (ji34)) * 8192) % 4294967296))) ((rd x6_2 (ji34)) / 1024))) % 4294967296)) (wrap64 (x8_2 + 1))) else (none)) else (none)) else (none)) else (none)) else (none)) else (none)) = some r := by first | (rw [hji37] at H; exact H) | (simp only [hji37] at H ⊢; exact H)
           have hji37w : (IntKind.i64.wrap (x8_2 - 16)) = ji37 := (i64_w _).trans hji37
           by_cases c38 : 0 ≤ (ji37)
           ·rw [if_pos c38] at H
            have c38b0 : decide (0 ≤ (ji37)) = true := decide_eq_true c38
            clear c38
            by_cases c39 : (ji37) < (64 : Int)
            ·rw [if_pos c39] at H
             have c39b0 : decide ((ji37) < (64 : Int)) = true := decide_eq_true c39
             clear c39
             obtain ⟨ji40, hji40⟩ : ∃ j_ : Int, (wrap64 (x8_2 - 7)) = j_ := ⟨_, rfl⟩
             replace H : (if 0 ≤ (ji40) then (if (ji40) < (64 : Int) then (if 0 ≤ x8_2 then (if x8_2 < (64 : Int) then (certpathref01_round.l1 k2 l0 y174 (x6_2.set (x8_2 : Int).toNat (((((rd x6_2 (ji37)) + (Go.bits .xor .u32 (Go.bits .xor .u32 (Go.bits .or .u32 ((rd x6_2 (ji31)) / 128) (((rd x6_2 (ji31)) * 33554432) % 4294967296)) (Go.bits .or .u32 ((rd x6_2 (ji31)) / 262144) (((rd x6_2 (ji31)) * 16384) % 4294967296))) ((rd x6_2 (ji31)) / 8))) + (rd x6_2 (ji40))) + (Go.bits .xor .u32 (Go.bits .xor .u32 (Go.bits .or .u32 ((rd x6_2 (ji34)) / 131072) (((rd x6_2 (ji34)) * 32768) % 4294967296)) (Go.bits .or .u32 ((rd x6_2 (ji34)) / 524288) (((rd x6_2 (ji34)) * 8192) % 4294967296))) ((rd x6_2 (ji34)) / 1024))) % 4294967296)) (wrap64 (x8_2 + 1))) else (none)) else (none)) else (none)) else (none)) = some r := by first | (rw [hji40] at H; exact H) | (simp only [hji40] at H ⊢; exact H)
             have hji40w : (IntKind.i64.wrap (x8_2 - 7)) = ji40 := (i64_w _).trans hji40
             by_cases c41 : 0 ≤ (ji40)
             ·rw [if_pos c41] at H
              have c41b0 : decide (0 ≤ (ji40)) = true := decide_eq_true c41
              clear c41
              by_cases c42 : (ji40) < (64 : Int)
              ·rw [if_pos c42] at H
               have c42b0 : decide ((ji40) < (64 : Int)) = true := decide_eq_true c42
               clear c42
               by_cases c43 : 0 ≤ x8_2
               ·rw [if_pos c43] at H
                have c43b0 : decide (0 ≤ x8_2) = true := decide_eq_true c43
                clear c43
                by_cases c44 : x8_2 < (64 : Int)
                ·rw [if_pos c44] at H
                 have c44b0 : decide (x8_2 < (64 : Int)) = true := decide_eq_true c44
                 clear c44
                 obtain ⟨y185, hy185⟩ : ∃ y_ : List Int, y_ = (x6_2.set (x8_2 : Int).toNat (((((rd x6_2 (ji37)) + (Go.bits .xor .u32 (Go.bits .xor .u32 (Go.bits .or .u32 ((rd x6_2 (ji31)) / 128) (((rd x6_2 (ji31)) * 33554432) % 4294967296)) (Go.bits .or .u32 ((rd x6_2 (ji31)) / 262144) (((rd x6_2 (ji31)) * 16384) % 4294967296))) ((rd x6_2 (ji31)) / 8))) + (rd x6_2 (ji40))) + (Go.bits .xor .u32 (Go.bits .xor .u32 (Go.bits .or .u32 ((rd x6_2 (ji34)) / 131072) (((rd x6_2 (ji34)) * 32768) % 4294967296)) (Go.bits .or .u32 ((rd x6_2 (ji34)) / 524288) (((rd x6_2 (ji34)) * 8192) % 4294967296))) ((rd x6_2 (ji34)) / 1024))) % 4294967296)) := ⟨_, rfl⟩
                 replace H : (certpathref01_round.l1 k2 l0 y174 y185 (wrap64 (x8_2 + 1))) = some r := by first | (rw [hy185]; with_reducible exact H) | (have H2_ := (Option.bind_some _ _).symm.trans H; rw [hy185]; with_reducible exact H2_) | (have H2_ := (Option.bind_some _ _).symm.trans H; with_reducible exact H2_) | with_reducible exact H | (rw [hy185]; exact H) | exact H
                 have Ny185 := Aside0.mk hy185
                 clear hy185
                 have H' := Aside0.mk H
                 clear H
                 try go_wp2
                 have n0_ := Aside0.mk (Kd.R_drew HO_5.out)
                 have n1_ := Aside0.mk (Kd.R_drew HO_6.out)
                 have n2_ := Aside0.mk (below_drew1 HB.out)
                 clear HO_5
                 clear HO_6
                 clear HB
                 have HO_5 := n0_
                 have HO_6 := n1_
                 have HB := n2_
                 clear n0_ n1_ n2_
                 have p181 : 0 ≤ ((ji31) : Int) := of_decide_eq_true (by first | (with_reducible assumption) | assumption)
                 have q181 : (ji31) < (x6_2.length : Int) := (by have h_ : ((ji31) : Int) < ((64 : Int) : Int) := of_decide_eq_true (by first | (with_reducible assumption) | assumption); have e_ := (Kd.R_reads' HO_6.out).1; omega)
                 have ql181 : (((ji31) : Int) < ((64 : Int) : Int)) = True := eq_true (of_decide_eq_true (by first | (with_reducible assumption) | assumption))
                 obtain ⟨ad181, e181, hx181_0⟩ := Kd.at_int (Kd.R_reads' HO_6.out).2.2 (ji31) p181 q181
                 obtain rfl : (⟨go7, 0, none⟩ : Addr) = ad181 := (by injection e181)
                 (first | simp only [add_plain] at hx181_0 | simp only [add_at] at hx181_0 | simp only [Addr.add, Nat.zero_add] at hx181_0 | skip)
                 replace p181 := eq_true p181
                 replace q181 := eq_true q181
                 have p182 : 0 ≤ ((ji34) : Int) := of_decide_eq_true (by first | (with_reducible assumption) | assumption)
                 have q182 : (ji34) < (x6_2.length : Int) := (by have h_ : ((ji34) : Int) < ((64 : Int) : Int) := of_decide_eq_true (by first | (with_reducible assumption) | assumption); have e_ := (Kd.R_reads' HO_6.out).1; omega)
                 have ql182 : (((ji34) : Int) < ((64 : Int) : Int)) = True := eq_true (of_decide_eq_true (by first | (with_reducible assumption) | assumption))
                 obtain ⟨ad182, e182, hx182_0⟩ := Kd.at_int (Kd.R_reads' HO_6.out).2.2 (ji34) p182 q182
                 obtain rfl : (⟨go7, 0, none⟩ : Addr) = ad182 := (by injection e182)
                 (first | simp only [add_plain] at hx182_0 | simp only [add_at] at hx182_0 | simp only [Addr.add, Nat.zero_add] at hx182_0 | skip)
                 replace p182 := eq_true p182
                 replace q182 := eq_true q182
                 refine start_ (n := 10) (S := fun w' => w'.cell? ⟨go7, ((ji31)).toNat, none⟩ = some (.int .u32 (rd x6_2 (ji31))) ∧ w'.cell? ⟨go7, ((ji34)).toNat, none⟩ = some (.int .u32 (rd x6_2 (ji34)))) (ds := []) #[false, false, false, false, false, false, false, false, false, false] (by kernel_rfl) rfl rfl ⟨hx181_0, hx182_0⟩ (fun hHeld => ?_); refine with_tabW certpathref01_round.tab10 certpathref01_round.bits10 (fun HT_ HW_ => ?_)
                 generalize wr.drew = w46 at HO_5 HO_6 HB hx181_0 hx182_0 hHeld ⊢
                 refine pure_ (i := 0) (N := some 66) (v := ?_) (a' := ?_) #[true, false, false, false, false, false, false, false, false, false] rfl rfl (any_of HT_.out (by kernel_rfl)) (fun _ _ _ h => h) (Or.inl ⟨by rfl, ?_⟩) ?_ ?_
                 rotate_left; (intro w'; go_simp; with_reducible rfl); rotate_left; (simp only [Act.put, List.setIfInBounds_toArray, List.set_cons_zero, List.set_cons_succ, i64_w, i32_w]; rfl)
                 refine pure_ (i := 1) (N := some 67) (v := ?_) (a' := ?_) #[true, true, false, false, false, false, false, false, false, false] rfl rfl (any_of HT_.out (by kernel_rfl)) (fun _ _ _ h => h) (Or.inl ⟨by rfl, ?_⟩) ?_ ?_
                 rotate_left; (intro w'; go_simp; with_reducible rfl); rotate_left; (simp only [Act.put, List.setIfInBounds_toArray, List.set_cons_zero, List.set_cons_succ, i64_w, i32_w]; rfl)
                 refine pure_ (i := 2) (N := some 68) (v := ?_) (a' := ?_) #[true, true, true, false, false, false, false, false, false, false] rfl rfl (any_of HT_.out (by kernel_rfl)) (fun _ _ _ h => h) (Or.inl ⟨by rfl, ?_⟩) ?_ ?_
                 rotate_left; (intro w'; go_simp; with_reducible rfl); rotate_left; (simp only [Act.put, List.setIfInBounds_toArray, List.set_cons_zero, List.set_cons_succ, i64_w, i32_w]; rfl)
                 refine pure_ (i := 4) (N := some 70) (v := ?_) (a' := ?_) #[true, true, true, false, true, false, false, false, false, false] rfl rfl (any_of HT_.out (by kernel_rfl)) (fun _ _ _ h => h) (Or.inl ⟨by rfl, ?_⟩) ?_ ?_
                 rotate_left; (intro w'; go_simp; with_reducible rfl); rotate_left; (simp only [Act.put, List.setIfInBounds_toArray, List.set_cons_zero, List.set_cons_succ, i64_w, i32_w]; rfl)
                 refine pure_ (i := 5) (N := some 71) (v := ?_) (a' := ?_) #[true, true, true, false, true, true, false, false, false, false] rfl rfl (any_of HT_.out (by kernel_rfl)) (fun _ _ _ h => h) (Or.inl ⟨by rfl, ?_⟩) ?_ ?_
                 rotate_left; (intro w'; go_simp; with_reducible rfl); rotate_left; (simp only [Act.put, List.setIfInBounds_toArray, List.set_cons_zero, List.set_cons_succ, i64_w, i32_w]; rfl)
                 refine pure_ (i := 6) (N := some 72) (v := ?_) (a' := ?_) #[true, true, true, false, true, true, true, false, false, false] rfl rfl (any_of HT_.out (by kernel_rfl)) (fun _ _ _ h => h) (Or.inl ⟨by rfl, ?_⟩) ?_ ?_
                 rotate_left; (intro w'; go_simp; with_reducible rfl); rotate_left; (simp only [Act.put, List.setIfInBounds_toArray, List.set_cons_zero, List.set_cons_succ, i64_w, i32_w]; rfl)
                 refine take_ (i := 3) (N := some 69) (v := ?_) (a' := ?_) #[true, true, true, true, true, true, true, false, false, false] rfl rfl (take_ofW HT_.out HW_.out (by kernel_rfl)) (fun _ _ _ h => h) (Or.inl ⟨by rfl, ?_⟩) hHeld ?_ ?_
                 rotate_left; (rintro w' ⟨s0, s1⟩; go_simp; with_reducible rfl); rotate_left; (simp only [Act.put, List.setIfInBounds_toArray, List.set_cons_zero, List.set_cons_succ, i64_w, i32_w]; rfl)
                 refine pure_ (i := 8) (N := some 9) (v := ?_) (a' := ?_) #[true, true, true, true, true, true, true, false, true, false] rfl rfl (any_of HT_.out (by kernel_rfl)) (fun _ _ _ h => h) (Or.inl ⟨by rfl, ?_⟩) ?_ ?_
                 rotate_left; (intro w'; go_simp; with_reducible rfl); rotate_left; (simp only [Act.put, List.setIfInBounds_toArray, List.set_cons_zero, List.set_cons_succ, i64_w, i32_w]; rfl)
                 refine take_ (i := 7) (N := some 73) (v := ?_) (a' := ?_) #[true, true, true, true, true, true, true, true, true, false] rfl rfl (take_ofW HT_.out HW_.out (by kernel_rfl)) (fun _ _ _ h => h) (Or.inl ⟨by rfl, ?_⟩) hHeld ?_ ?_
                 rotate_left; (rintro w' ⟨s0, s1⟩; go_simp; with_reducible rfl); rotate_left; (simp only [Act.put, List.setIfInBounds_toArray, List.set_cons_zero, List.set_cons_succ, i64_w, i32_w]; rfl)
                 refine pure_ (i := 9) (N := some 10) (v := ?_) (a' := ?_) #[true, true, true, true, true, true, true, true, true, true] rfl rfl (any_of HT_.out (by kernel_rfl)) (fun _ _ _ h => h) (Or.inl ⟨by rfl, ?_⟩) ?_ ?_
                 rotate_left; (intro w'; go_simp; with_reducible rfl); rotate_left; (simp only [Act.put, List.setIfInBounds_toArray, List.set_cons_zero, List.set_cons_succ, i64_w, i32_w]; rfl)
                 refine done_ (done_of HT_.out (by kernel_rfl)) ?_
                 try go_wp2
                 have n0_ := Aside0.mk (Kd.R_drew HO_5.out)
                 have n1_ := Aside0.mk (Kd.R_drew HO_6.out)
                 have n2_ := Aside0.mk (below_drew1 HB.out)
                 clear HO_5
                 clear HO_6
                 clear HB
                 have HO_5 := n0_
                 have HO_6 := n1_
                 have HB := n2_
                 clear n0_ n1_ n2_
                 have p183 : 0 ≤ ((ji37) : Int) := of_decide_eq_true (by first | (with_reducible assumption) | assumption)
                 have q183 : (ji37) < (x6_2.length : Int) := (by have h_ : ((ji37) : Int) < ((64 : Int) : Int) := of_decide_eq_true (by first | (with_reducible assumption) | assumption); have e_ := (Kd.R_reads' HO_6.out).1; omega)
                 have ql183 : (((ji37) : Int) < ((64 : Int) : Int)) = True := eq_true (of_decide_eq_true (by first | (with_reducible assumption) | assumption))
                 obtain ⟨ad183, e183, hx183_0⟩ := Kd.at_int (Kd.R_reads' HO_6.out).2.2 (ji37) p183 q183
                 obtain rfl : (⟨go7, 0, none⟩ : Addr) = ad183 := (by injection e183)
                 (first | simp only [add_plain] at hx183_0 | simp only [add_at] at hx183_0 | simp only [Addr.add, Nat.zero_add] at hx183_0 | skip)
                 replace p183 := eq_true p183
                 replace q183 := eq_true q183
                 have p184 : 0 ≤ ((ji40) : Int) := of_decide_eq_true (by first | (with_reducible assumption) | assumption)
                 have q184 : (ji40) < (x6_2.length : Int) := (by have h_ : ((ji40) : Int) < ((64 : Int) : Int) := of_decide_eq_true (by first | (with_reducible assumption) | assumption); have e_ := (Kd.R_reads' HO_6.out).1; omega)
                 have ql184 : (((ji40) : Int) < ((64 : Int) : Int)) = True := eq_true (of_decide_eq_true (by first | (with_reducible assumption) | assumption))
                 obtain ⟨ad184, e184, hx184_0⟩ := Kd.at_int (Kd.R_reads' HO_6.out).2.2 (ji40) p184 q184
                 obtain rfl : (⟨go7, 0, none⟩ : Addr) = ad184 := (by injection e184)
                 (first | simp only [add_plain] at hx184_0 | simp only [add_at] at hx184_0 | simp only [Addr.add, Nat.zero_add] at hx184_0 | skip)
                 replace p184 := eq_true p184
                 replace q184 := eq_true q184
                 have p45 : 0 ≤ (x8_2 : Int) := of_decide_eq_true (by first | (with_reducible assumption) | assumption)
                 have q45 : (x8_2 : Int) < ((64 : Int) : Int) := of_decide_eq_true (by first | (with_reducible assumption) | assumption)
                 obtain ⟨cl45, HG45⟩ := Ext.arr_typed HO_6.out (by decide)
                 have GG7 := Aside0.mk HG45
                 clear HG45
                 obtain ⟨hx45_0, hf45_0⟩ := Kd.R_celln 0 HO_6.out (x8_2 : Int) p45 q45
                 replace p45 := eq_true p45
                 replace q45 := eq_true q45
                 have HP48 := Kd.R_putn HO_6.out (x8_2 : Int) (((((rd x6_2 (ji37)) + (Go.bits .xor .u32 (Go.bits .xor .u32 (Go.bits .or .u32 ((rd x6_2 (ji31)) / 128) (((rd x6_2 (ji31)) * 33554432) % 4294967296)) (Go.bits .or .u32 ((rd x6_2 (ji31)) / 262144) (((rd x6_2 (ji31)) * 16384) % 4294967296))) ((rd x6_2 (ji31)) / 8))) + (rd x6_2 (ji40))) + (Go.bits .xor .u32 (Go.bits .xor .u32 (Go.bits .or .u32 ((rd x6_2 (ji34)) / 131072) (((rd x6_2 (ji34)) * 32768) % 4294967296)) (Go.bits .or .u32 ((rd x6_2 (ji34)) / 524288) (((rd x6_2 (ji34)) * 8192) % 4294967296))) ((rd x6_2 (ji34)) / 1024))) % 4294967296)
                 rw [← Ny185.out] at HP48
                 have HQ48 := Aside0.mk HP48
                 clear HP48
                 refine start_ (n := 16) (S := fun w' => w'.cell? ⟨go7, ((ji37)).toNat, none⟩ = some (.int .u32 (rd x6_2 (ji37))) ∧ w'.cell? ⟨go7, ((ji40)).toNat, none⟩ = some (.int .u32 (rd x6_2 (ji40)))) (ds := [15]) #[false, false, false, false, false, false, false, false, false, false, false, false, false, false, false, false] (by kernel_rfl) rfl rfl ⟨hx183_0, hx184_0⟩ (fun hHeld => ?_); refine with_tabW certpathref01_round.tab13 certpathref01_round.bits13 (fun HT_ HW_ => ?_)
                 generalize w46.drew = w47 at HO_5 HO_6 HB GG7 HQ48 hf45_0 hx183_0 hx184_0 hx45_0 hHeld ⊢
                 refine pure_ (i := 0) (N := some 102) (v := ?_) (a' := ?_) #[true, false, false, false, false, false, false, false, false, false, false, false, false, false, false, false] rfl rfl (any_of HT_.out (by kernel_rfl)) (fun _ _ _ h => h) (Or.inl ⟨by rfl, ?_⟩) ?_ ?_
                 rotate_left; (intro w'; go_simp; with_reducible rfl); rotate_left; (simp only [Act.put, List.setIfInBounds_toArray, List.set_cons_zero, List.set_cons_succ, i64_w, i32_w]; rfl)
                 refine pure_ (i := 1) (N := some 103) (v := ?_) (a' := ?_) #[true, true, false, false, false, false, false, false, false, false, false, false, false, false, false, false] rfl rfl (any_of HT_.out (by kernel_rfl)) (fun _ _ _ h => h) (Or.inl ⟨by rfl, ?_⟩) ?_ ?_
                 rotate_left; (intro w'; go_simp; with_reducible rfl); rotate_left; (simp only [Act.put, List.setIfInBounds_toArray, List.set_cons_zero, List.set_cons_succ, i64_w, i32_w]; rfl)
                 refine pure_ (i := 2) (N := some 104) (v := ?_) (a' := ?_) #[true, true, true, false, false, false, false, false, false, false, false, false, false, false, false, false] rfl rfl (any_of HT_.out (by kernel_rfl)) (fun _ _ _ h => h) (Or.inl ⟨by rfl, ?_⟩) ?_ ?_
                 rotate_left; (intro w'; go_simp; with_reducible rfl); rotate_left; (simp only [Act.put, List.setIfInBounds_toArray, List.set_cons_zero, List.set_cons_succ, i64_w, i32_w]; rfl)
                 refine pure_ (i := 3) (N := some 105) (v := ?_) (a' := ?_) #[true, true, true, true, false, false, false, false, false, false, false, false, false, false, false, false] rfl rfl (any_of HT_.out (by kernel_rfl)) (fun _ _ _ h => h) (Or.inl ⟨by rfl, ?_⟩) ?_ ?_
                 rotate_left; (intro w'; go_simp; with_reducible rfl); rotate_left; (simp only [Act.put, List.setIfInBounds_toArray, List.set_cons_zero, List.set_cons_succ, i64_w, i32_w]; rfl)
                 refine pure_ (i := 5) (N := some 107) (v := ?_) (a' := ?_) #[true, true, true, true, false, true, false, false, false, false, false, false, false, false, false, false] rfl rfl (any_of HT_.out (by kernel_rfl)) (fun _ _ _ h => h) (Or.inl ⟨by rfl, ?_⟩) ?_ ?_
                 rotate_left; (intro w'; go_simp; with_reducible rfl); rotate_left; (simp only [Act.put, List.setIfInBounds_toArray, List.set_cons_zero, List.set_cons_succ, i64_w, i32_w]; rfl)
                 refine pure_ (i := 7) (N := some 109) (v := ?_) (a' := ?_) #[true, true, true, true, false, true, false, true, false, false, false, false, false, false, false, false] rfl rfl (any_of HT_.out (by kernel_rfl)) (fun _ _ _ h => h) (Or.inl ⟨by rfl, ?_⟩) ?_ ?_
                 rotate_left; (intro w'; go_simp; with_reducible rfl); rotate_left; (simp only [Act.put, List.setIfInBounds_toArray, List.set_cons_zero, List.set_cons_succ, i64_w, i32_w]; rfl)
                 refine pure_ (i := 8) (N := some 110) (v := ?_) (a' := ?_) #[true, true, true, true, false, true, false, true, true, false, false, false, false, false, false, false] rfl rfl (any_of HT_.out (by kernel_rfl)) (fun _ _ _ h => h) (Or.inl ⟨by rfl, ?_⟩) ?_ ?_
                 rotate_left; (intro w'; go_simp; with_reducible rfl); rotate_left; (simp only [Act.put, List.setIfInBounds_toArray, List.set_cons_zero, List.set_cons_succ, i64_w, i32_w]; rfl)
                 refine pure_ (i := 9) (N := some 111) (v := ?_) (a' := ?_) #[true, true, true, true, false, true, false, true, true, true, false, false, false, false, false, false] rfl rfl (any_of HT_.out (by kernel_rfl)) (fun _ _ _ h => h) (Or.inl ⟨by rfl, ?_⟩) ?_ ?_
                 rotate_left; (intro w'; go_simp; with_reducible rfl); rotate_left; (simp only [Act.put, List.setIfInBounds_toArray, List.set_cons_zero, List.set_cons_succ, i64_w, i32_w]; rfl)
                 refine pure_ (i := 12) (N := some 114) (v := ?_) (a' := ?_) #[true, true, true, true, false, true, false, true, true, true, false, false, true, false, false, false] rfl rfl (any_of HT_.out (by kernel_rfl)) (fun _ _ _ h => h) (Or.inl ⟨by rfl, ?_⟩) ?_ ?_
                 rotate_left; (intro w'; go_simp; with_reducible rfl); rotate_left; (simp only [Act.put, List.setIfInBounds_toArray, List.set_cons_zero, List.set_cons_succ, i64_w, i32_w]; rfl)
                 refine take_ (i := 4) (N := some 106) (v := ?_) (a' := ?_) #[true, true, true, true, true, true, false, true, true, true, false, false, true, false, false, false] rfl rfl (take_ofW HT_.out HW_.out (by kernel_rfl)) (fun _ _ _ h => h) (Or.inl ⟨by rfl, ?_⟩) hHeld ?_ ?_
                 rotate_left; (rintro w' ⟨s0, s1⟩; go_simp; with_reducible rfl); rotate_left; (simp only [Act.put, List.setIfInBounds_toArray, List.set_cons_zero, List.set_cons_succ, i64_w, i32_w]; rfl)
                 refine pure_ (i := 6) (N := some 108) (v := ?_) (a' := ?_) #[true, true, true, true, true, true, true, true, true, true, false, false, true, false, false, false] rfl rfl (any_of HT_.out (by kernel_rfl)) (fun _ _ _ h => h) (Or.inl ⟨by rfl, ?_⟩) ?_ ?_
                 rotate_left; (intro w'; go_simp; with_reducible rfl); rotate_left; (simp only [Act.put, List.setIfInBounds_toArray, List.set_cons_zero, List.set_cons_succ, i64_w, i32_w]; rfl)
                 refine take_ (i := 10) (N := some 112) (v := ?_) (a' := ?_) #[true, true, true, true, true, true, true, true, true, true, true, false, true, false, false, false] rfl rfl (take_ofW HT_.out HW_.out (by kernel_rfl)) (fun _ _ _ h => h) (Or.inl ⟨by rfl, ?_⟩) hHeld ?_ ?_
                 rotate_left; (rintro w' ⟨s0, s1⟩; go_simp; with_reducible rfl); rotate_left; (simp only [Act.put, List.setIfInBounds_toArray, List.set_cons_zero, List.set_cons_succ, i64_w, i32_w]; rfl)
                 refine pure_ (i := 11) (N := some 113) (v := ?_) (a' := ?_) #[true, true, true, true, true, true, true, true, true, true, true, true, true, false, false, false] rfl rfl (any_of HT_.out (by kernel_rfl)) (fun _ _ _ h => h) (Or.inl ⟨by rfl, ?_⟩) ?_ ?_
                 rotate_left; (intro w'; go_simp; with_reducible rfl); rotate_left; (simp only [Act.put, List.setIfInBounds_toArray, List.set_cons_zero, List.set_cons_succ, i64_w, i32_w]; rfl)
                 refine pure_ (i := 13) (N := some 115) (v := ?_) (a' := ?_) #[true, true, true, true, true, true, true, true, true, true, true, true, true, true, false, false] rfl rfl (any_of HT_.out (by kernel_rfl)) (fun _ _ _ h => h) (Or.inl ⟨by rfl, ?_⟩) ?_ ?_
                 rotate_left; (intro w'; go_simp; with_reducible rfl); rotate_left; (simp only [Act.put, List.setIfInBounds_toArray, List.set_cons_zero, List.set_cons_succ, i64_w, i32_w]; rfl)
                 refine pure_ (i := 14) (N := some 116) (v := ?_) (a' := ?_) #[true, true, true, true, true, true, true, true, true, true, true, true, true, true, true, false] rfl rfl (any_of HT_.out (by kernel_rfl)) (fun _ _ _ h => h) (Or.inl ⟨by rfl, ?_⟩) ?_ ?_
                 rotate_left; (intro w'; go_simp; with_reducible rfl); rotate_left; (simp only [Act.put, List.setIfInBounds_toArray, List.set_cons_zero, List.set_cons_succ, i64_w, i32_w]; rfl)
                 refine last_ (i := 15) (N := none) #[true, true, true, true, true, true, true, true, true, true, true, true, true, true, true, true] rfl rfl (one_of HT_.out (by kernel_rfl)) (by decide) (fun K hK => ?_)
                 refine skip_ (w1 := ?_) (by rfl) rfl ?_ ?_
                 rotate_left
                 ·go_simp
                  rfl
                 refine hK.out _ _ ?_
                 clear hK K
                 refine done_ (done_of HT_.out (by kernel_rfl)) ?_
                 try go_wp2
                 go_roundg k2
                 case measure => have := HK1.out; have := HK2.out; omega
                 case rel => exact ⟨(y185), (wrap64 (x8_2 + 1)), (by first | rfl | (simp; done) | (simp [*]; done)), H', ⟨by have := HK1.out; have := HK2.out; omega⟩, ⟨by (with_reducible repeat (first | apply Kd.R_alloc | apply Kd.R_drewN | apply Kd.R_drew)); exact Kd.R_mono (Kd.R_far (p := ⟨go7, (x8_2 : Int).toNat, none⟩) (Kd.R_types HO_5.out GG7.out (by decide)) (fun _ hk => hk.2) (.int .u32 (((((rd x6_2 (ji37)) + (Go.bits .xor .u32 (Go.bits .xor .u32 (Go.bits .or .u32 ((rd x6_2 (ji31)) / 128) (((rd x6_2 (ji31)) * 33554432) % 4294967296)) (Go.bits .or .u32 ((rd x6_2 (ji31)) / 262144) (((rd x6_2 (ji31)) * 16384) % 4294967296))) ((rd x6_2 (ji31)) / 8))) + (rd x6_2 (ji40))) + (Go.bits .xor .u32 (Go.bits .xor .u32 (Go.bits .or .u32 ((rd x6_2 (ji34)) / 131072) (((rd x6_2 (ji34)) * 32768) % 4294967296)) (Go.bits .or .u32 ((rd x6_2 (ji34)) / 524288) (((rd x6_2 (ji34)) * 8192) % 4294967296))) ((rd x6_2 (ji34)) / 1024))) % 4294967296))) (fun _ hk => trivial)⟩, ⟨by (with_reducible repeat (first | apply Kd.R_alloc | apply Kd.R_drewN | apply Kd.R_drew)); exact HQ48.out⟩, ⟨by repeat (first | (with_reducible first | exact HB.out | apply below_alloc | apply pw_below_drewN | apply below_drew1 | refine below_set ?_ GB7.out) | exact HB.out)⟩⟩
                ·rw [if_neg c44] at H
                 exact absurd H (by simp)
               ·rw [if_neg c43] at H
                exact absurd H (by simp)
              ·rw [if_neg c42] at H
               exact absurd H (by simp)
             ·rw [if_neg c41] at H
              exact absurd H (by simp)
            ·rw [if_neg c39] at H
             exact absurd H (by simp)
           ·rw [if_neg c38] at H
            exact absurd H (by simp)
          ·rw [if_neg c36] at H
           exact absurd H (by simp)
         ·rw [if_neg c35] at H
          exact absurd H (by simp)
        ·rw [if_neg c33] at H
         exact absurd H (by simp)
       ·rw [if_neg c32] at H
        exact absurd H (by simp)
      ·rw [if_neg c30] at H
       have c30b0 : decide (x8_2 < 64) = false := decide_eq_false c30
       clear c30
       by_cases c49 : 0 < (l0.length : Int)
       ·rw [if_pos c49] at H
        have c49b0 : decide (0 < (l0.length : Int)) = true := decide_eq_true c49
        have c49b1 : decide (0 < l0.length) = true := decide_eq_true (by omega)
        clear c49
        by_cases c50 : 1 < (l0.length : Int)
        ·rw [if_pos c50] at H
         have c50b0 : decide (1 < (l0.length : Int)) = true := decide_eq_true c50
         have c50b1 : decide (1 < l0.length) = true := decide_eq_true (by omega)
         clear c50
         by_cases c51 : 2 < (l0.length : Int)
         ·rw [if_pos c51] at H
          have c51b0 : decide (2 < (l0.length : Int)) = true := decide_eq_true c51
          have c51b1 : decide (2 < l0.length) = true := decide_eq_true (by omega)
          clear c51
          by_cases c52 : 3 < (l0.length : Int)
          ·rw [if_pos c52] at H
           have c52b0 : decide (3 < (l0.length : Int)) = true := decide_eq_true c52
           have c52b1 : decide (3 < l0.length) = true := decide_eq_true (by omega)
           clear c52
           by_cases c53 : 4 < (l0.length : Int)
           ·rw [if_pos c53] at H
            have c53b0 : decide (4 < (l0.length : Int)) = true := decide_eq_true c53
            have c53b1 : decide (4 < l0.length) = true := decide_eq_true (by omega)
            clear c53
            by_cases c54 : 5 < (l0.length : Int)
            ·rw [if_pos c54] at H
             have c54b0 : decide (5 < (l0.length : Int)) = true := decide_eq_true c54
             have c54b1 : decide (5 < l0.length) = true := decide_eq_true (by omega)
             clear c54
             by_cases c55 : 6 < (l0.length : Int)
             ·rw [if_pos c55] at H
              have c55b0 : decide (6 < (l0.length : Int)) = true := decide_eq_true c55
              have c55b1 : decide (6 < l0.length) = true := decide_eq_true (by omega)
              clear c55
              by_cases c56 : 7 < (l0.length : Int)
              ·rw [if_pos c56] at H
               have c56b0 : decide (7 < (l0.length : Int)) = true := decide_eq_true c56
               have c56b1 : decide (7 < l0.length) = true := decide_eq_true (by omega)
               clear c56
               have H' := Aside0.mk H
               clear H
               try go_wp2
               have n0_ := Aside0.mk (Kd.R_drew HO_5.out)
               have n1_ := Aside0.mk (Kd.R_drew HO_6.out)
               have n2_ := Aside0.mk (below_drew1 HB.out)
               clear HO_5
               clear HO_6
               clear HB
               have HO_5 := n0_
               have HO_6 := n1_
               have HB := n2_
               clear n0_ n1_ n2_
               have p186 : 0 ≤ (0 : Int) := (by omega)
               have q186 : 0 < (l0.length : Int) := of_decide_eq_true (by first | (with_reducible assumption) | assumption)
               obtain ⟨ad186, e186, hx186_0⟩ := Kd.at_int HR0.out 0 p186 q186
               have hw186_0 := hx186_0
               (try rw [show ((0 : Int)).toNat = 0 from rfl] at hw186_0)
               (try rw [show 0 * 1 = 0 from rfl] at hw186_0)
               (try rw [Addr.add_zero'] at hw186_0)
               cases e186
               have qi186 : (0 < l0.length) = True := eq_true (by omega)
               (try rw [show ((0 : Int)).toNat = 0 from rfl] at hx186_0)
               (try rw [Addr.add_zero'] at hx186_0)
               replace hx186_0 := (HB.out.cell (World.block_lt_of_cell? w _ hx186_0)).trans hx186_0
               replace p186 := eq_true p186
               replace q186 := eq_true q186
               have p187 : 0 ≤ (1 : Int) := (by omega)
               have q187 : 1 < (l0.length : Int) := of_decide_eq_true (by first | (with_reducible assumption) | assumption)
               obtain ⟨ad187, e187, hx187_0⟩ := Kd.at_int HR0.out 1 p187 q187
               have hw187_0 := hx187_0
               (try rw [show ((1 : Int)).toNat = 1 from rfl] at hw187_0)
               (try rw [show 1 * 1 = 1 from rfl] at hw187_0)
               (try simp only [Nat.reduceMul, Nat.reduceEqDiff, Go.Addr.add, ↓reduceIte] at hw187_0)
               obtain rfl : ad186 = ad187 := (by injection e187)
               (try simp only [show (1 : Int).toNat = 1 from rfl, Nat.reduceMul, Nat.reduceEqDiff, Go.Addr.add, ↓reduceIte] at hx187_0)
               have qi187 : (1 < l0.length) = True := eq_true (by omega)
               (try rw [show ((1 : Int)).toNat = 1 from rfl] at hx187_0)
               replace hx187_0 := (HB.out.cell (World.block_lt_of_cell? w _ hx187_0)).trans hx187_0
               replace p187 := eq_true p187
               replace q187 := eq_true q187
               have p188 : 0 ≤ (2 : Int) := (by omega)
               have q188 : 2 < (l0.length : Int) := of_decide_eq_true (by first | (with_reducible assumption) | assumption)
               obtain ⟨ad188, e188, hx188_0⟩ := Kd.at_int HR0.out 2 p188 q188
               have hw188_0 := hx188_0
               (try rw [show ((2 : Int)).toNat = 2 from rfl] at hw188_0)
               (try rw [show 2 * 1 = 2 from rfl] at hw188_0)
               (try simp only [Nat.reduceMul, Nat.reduceEqDiff, Go.Addr.add, ↓reduceIte] at hw188_0)
               obtain rfl : ad186 = ad188 := (by injection e188)
               (try simp only [show (2 : Int).toNat = 2 from rfl, Nat.reduceMul, Nat.reduceEqDiff, Go.Addr.add, ↓reduceIte] at hx188_0)
               have qi188 : (2 < l0.length) = True := eq_true (by omega)
               (try rw [show ((2 : Int)).toNat = 2 from rfl] at hx188_0)
               replace hx188_0 := (HB.out.cell (World.block_lt_of_cell? w _ hx188_0)).trans hx188_0
               replace p188 := eq_true p188
               replace q188 := eq_true q188
               have p189 : 0 ≤ (3 : Int) := (by omega)
               have q189 : 3 < (l0.length : Int) := of_decide_eq_true (by first | (with_reducible assumption) | assumption)
               obtain ⟨ad189, e189, hx189_0⟩ := Kd.at_int HR0.out 3 p189 q189
               have hw189_0 := hx189_0
               (try rw [show ((3 : Int)).toNat = 3 from rfl] at hw189_0)
               (try rw [show 3 * 1 = 3 from rfl] at hw189_0)
               (try simp only [Nat.reduceMul, Nat.reduceEqDiff, Go.Addr.add, ↓reduceIte] at hw189_0)
               obtain rfl : ad186 = ad189 := (by injection e189)
               (try simp only [show (3 : Int).toNat = 3 from rfl, Nat.reduceMul, Nat.reduceEqDiff, Go.Addr.add, ↓reduceIte] at hx189_0)
               have qi189 : (3 < l0.length) = True := eq_true (by omega)
               (try rw [show ((3 : Int)).toNat = 3 from rfl] at hx189_0)
               replace hx189_0 := (HB.out.cell (World.block_lt_of_cell? w _ hx189_0)).trans hx189_0
               replace p189 := eq_true p189
               replace q189 := eq_true q189
               have p190 : 0 ≤ (4 : Int) := (by omega)
               have q190 : 4 < (l0.length : Int) := of_decide_eq_true (by first | (with_reducible assumption) | assumption)
               obtain ⟨ad190, e190, hx190_0⟩ := Kd.at_int HR0.out 4 p190 q190
               have hw190_0 := hx190_0
               (try rw [show ((4 : Int)).toNat = 4 from rfl] at hw190_0)
               (try rw [show 4 * 1 = 4 from rfl] at hw190_0)
               (try simp only [Nat.reduceMul, Nat.reduceEqDiff, Go.Addr.add, ↓reduceIte] at hw190_0)
               obtain rfl : ad186 = ad190 := (by injection e190)
               (try simp only [show (4 : Int).toNat = 4 from rfl, Nat.reduceMul, Nat.reduceEqDiff, Go.Addr.add, ↓reduceIte] at hx190_0)
               have qi190 : (4 < l0.length) = True := eq_true (by omega)
               (try rw [show ((4 : Int)).toNat = 4 from rfl] at hx190_0)
               replace hx190_0 := (HB.out.cell (World.block_lt_of_cell? w _ hx190_0)).trans hx190_0
               replace p190 := eq_true p190
               replace q190 := eq_true q190
               have p191 : 0 ≤ (5 : Int) := (by omega)
               have q191 : 5 < (l0.length : Int) := of_decide_eq_true (by first | (with_reducible assumption) | assumption)
               obtain ⟨ad191, e191, hx191_0⟩ := Kd.at_int HR0.out 5 p191 q191
               have hw191_0 := hx191_0
               (try rw [show ((5 : Int)).toNat = 5 from rfl] at hw191_0)
               (try rw [show 5 * 1 = 5 from rfl] at hw191_0)
               (try simp only [Nat.reduceMul, Nat.reduceEqDiff, Go.Addr.add, ↓reduceIte] at hw191_0)
               obtain rfl : ad186 = ad191 := (by injection e191)
               (try simp only [show (5 : Int).toNat = 5 from rfl, Nat.reduceMul, Nat.reduceEqDiff, Go.Addr.add, ↓reduceIte] at hx191_0)
               have qi191 : (5 < l0.length) = True := eq_true (by omega)
               (try rw [show ((5 : Int)).toNat = 5 from rfl] at hx191_0)
               replace hx191_0 := (HB.out.cell (World.block_lt_of_cell? w _ hx191_0)).trans hx191_0
               replace p191 := eq_true p191
               replace q191 := eq_true q191
               have p192 : 0 ≤ (6 : Int) := (by omega)
               have q192 : 6 < (l0.length : Int) := of_decide_eq_true (by first | (with_reducible assumption) | assumption)
               obtain ⟨ad192, e192, hx192_0⟩ := Kd.at_int HR0.out 6 p192 q192
               have hw192_0 := hx192_0
               (try rw [show ((6 : Int)).toNat = 6 from rfl] at hw192_0)
               (try rw [show 6 * 1 = 6 from rfl] at hw192_0)
               (try simp only [Nat.reduceMul, Nat.reduceEqDiff, Go.Addr.add, ↓reduceIte] at hw192_0)
               obtain rfl : ad186 = ad192 := (by injection e192)
               (try simp only [show (6 : Int).toNat = 6 from rfl, Nat.reduceMul, Nat.reduceEqDiff, Go.Addr.add, ↓reduceIte] at hx192_0)
               have qi192 : (6 < l0.length) = True := eq_true (by omega)
               (try rw [show ((6 : Int)).toNat = 6 from rfl] at hx192_0)
               replace hx192_0 := (HB.out.cell (World.block_lt_of_cell? w _ hx192_0)).trans hx192_0
               replace p192 := eq_true p192
               replace q192 := eq_true q192
               have p193 : 0 ≤ (7 : Int) := (by omega)
               have q193 : 7 < (l0.length : Int) := of_decide_eq_true (by first | (with_reducible assumption) | assumption)
               obtain ⟨ad193, e193, hx193_0⟩ := Kd.at_int HR0.out 7 p193 q193
               have hw193_0 := hx193_0
               (try rw [show ((7 : Int)).toNat = 7 from rfl] at hw193_0)
               (try rw [show 7 * 1 = 7 from rfl] at hw193_0)
               (try simp only [Nat.reduceMul, Nat.reduceEqDiff, Go.Addr.add, ↓reduceIte] at hw193_0)
               obtain rfl : ad186 = ad193 := (by injection e193)
               (try simp only [show (7 : Int).toNat = 7 from rfl, Nat.reduceMul, Nat.reduceEqDiff, Go.Addr.add, ↓reduceIte] at hx193_0)
               have qi193 : (7 < l0.length) = True := eq_true (by omega)
               (try rw [show ((7 : Int)).toNat = 7 from rfl] at hx193_0)
               replace hx193_0 := (HB.out.cell (World.block_lt_of_cell? w _ hx193_0)).trans hx193_0
               replace p193 := eq_true p193
               replace q193 := eq_true q193
               refine start_ (n := 32) (S := fun w' => w'.cell? ad186 = some (.int .u32 (rd l0 0)) ∧ w'.cell? ⟨ad186.block, ad186.off + 1, none⟩ = some (.int .u32 (rd l0 1)) ∧ w'.cell? ⟨ad186.block, ad186.off + 2, none⟩ = some (.int .u32 (rd l0 2)) ∧ w'.cell? ⟨ad186.block, ad186.off + 3, none⟩ = some (.int .u32 (rd l0 3)) ∧ w'.cell? ⟨ad186.block, ad186.off + 4, none⟩ = some (.int .u32 (rd l0 4)) ∧ w'.cell? ⟨ad186.block, ad186.off + 5, none⟩ = some (.int .u32 (rd l0 5)) ∧ w'.cell? ⟨ad186.block, ad186.off + 6, none⟩ = some (.int .u32 (rd l0 6)) ∧ w'.cell? ⟨ad186.block, ad186.off + 7, none⟩ = some (.int .u32 (rd l0 7))) (ds := []) #[false, false, false, false, false, false, false, false, false, false, false, false, false, false, false, false, false, false, false, false, false, false, false, false, false, false, false, false, false, false, false, false] (by kernel_rfl) rfl rfl ⟨((HB.out.cell (World.block_lt_of_cell? w _ hw186_0)).trans hw186_0), ((HB.out.cell (World.block_lt_of_cell? w _ hw187_0)).trans hw187_0), ((HB.out.cell (World.block_lt_of_cell? w _ hw188_0)).trans hw188_0), ((HB.out.cell (World.block_lt_of_cell? w _ hw189_0)).trans hw189_0), ((HB.out.cell (World.block_lt_of_cell? w _ hw190_0)).trans hw190_0), ((HB.out.cell (World.block_lt_of_cell? w _ hw191_0)).trans hw191_0), ((HB.out.cell (World.block_lt_of_cell? w _ hw192_0)).trans hw192_0), ((HB.out.cell (World.block_lt_of_cell? w _ hw193_0)).trans hw193_0)⟩ (fun hHeld => ?_); refine with_tabW certpathref01_round.tab14 certpathref01_round.bits14 (fun HT_ HW_ => ?_)
               generalize wr.drew = w57 at HO_5 HO_6 HB hx186_0 hx187_0 hx188_0 hx189_0 hx190_0 hx191_0 hx192_0 hx193_0 hHeld ⊢
               refine pure_ (i := 0) (N := some 117) (v := ?_) (a' := ?_) #[true, false, false, false, false, false, false, false, false, false, false, false, false, false, false, false, false, false, false, false, false, false, false, false, false, false, false, false, false, false, false, false] rfl rfl (any_of HT_.out (by kernel_rfl)) (fun _ _ _ h => h) (Or.inl ⟨by rfl, ?_⟩) ?_ ?_
               rotate_left; (intro w'; go_simp; with_reducible rfl); rotate_left; (simp only [Act.put, List.setIfInBounds_toArray, List.set_cons_zero, List.set_cons_succ, i64_w, i32_w]; rfl)
               refine pure_ (i := 1) (N := some 118) (v := ?_) (a' := ?_) #[true, true, false, false, false, false, false, false, false, false, false, false, false, false, false, false, false, false, false, false, false, false, false, false, false, false, false, false, false, false, false, false] rfl rfl (any_of HT_.out (by kernel_rfl)) (fun _ _ _ h => h) (Or.inl ⟨by rfl, ?_⟩) ?_ ?_
               rotate_left; (intro w'; go_simp; with_reducible rfl); rotate_left; (simp only [Act.put, List.setIfInBounds_toArray, List.set_cons_zero, List.set_cons_succ, i64_w, i32_w]; rfl)
               refine pure_ (i := 3) (N := some 120) (v := ?_) (a' := ?_) #[true, true, false, true, false, false, false, false, false, false, false, false, false, false, false, false, false, false, false, false, false, false, false, false, false, false, false, false, false, false, false, false] rfl rfl (any_of HT_.out (by kernel_rfl)) (fun _ _ _ h => h) (Or.inl ⟨by rfl, ?_⟩) ?_ ?_
               rotate_left; (intro w'; go_simp; with_reducible rfl); rotate_left; (simp only [Act.put, List.setIfInBounds_toArray, List.set_cons_zero, List.set_cons_succ, i64_w, i32_w]; rfl)
               refine pure_ (i := 4) (N := some 121) (v := ?_) (a' := ?_) #[true, true, false, true, true, false, false, false, false, false, false, false, false, false, false, false, false, false, false, false, false, false, false, false, false, false, false, false, false, false, false, false] rfl rfl (any_of HT_.out (by kernel_rfl)) (fun _ _ _ h => h) (Or.inl ⟨by rfl, ?_⟩) ?_ ?_
               rotate_left; (intro w'; go_simp; with_reducible rfl); rotate_left; (simp only [Act.put, List.setIfInBounds_toArray, List.set_cons_zero, List.set_cons_succ, i64_w, i32_w]; rfl)
               refine pure_ (i := 6) (N := some 123) (v := ?_) (a' := ?_) #[true, true, false, true, true, false, true, false, false, false, false, false, false, false, false, false, false, false, false, false, false, false, false, false, false, false, false, false, false, false, false, false] rfl rfl (any_of HT_.out (by kernel_rfl)) (fun _ _ _ h => h) (Or.inl ⟨by rfl, ?_⟩) ?_ ?_
               rotate_left; (intro w'; go_simp; with_reducible rfl); rotate_left; (simp only [Act.put, List.setIfInBounds_toArray, List.set_cons_zero, List.set_cons_succ, i64_w, i32_w]; rfl)
               refine pure_ (i := 7) (N := some 124) (v := ?_) (a' := ?_) #[true, true, false, true, true, false, true, true, false, false, false, false, false, false, false, false, false, false, false, false, false, false, false, false, false, false, false, false, false, false, false, false] rfl rfl (any_of HT_.out (by kernel_rfl)) (fun _ _ _ h => h) (Or.inl ⟨by rfl, ?_⟩) ?_ ?_
               rotate_left; (intro w'; go_simp; with_reducible rfl); rotate_left; (simp only [Act.put, List.setIfInBounds_toArray, List.set_cons_zero, List.set_cons_succ, i64_w, i32_w]; rfl)
               refine pure_ (i := 9) (N := some 126) (v := ?_) (a' := ?_) #[true, true, false, true, true, false, true, true, false, true, false, false, false, false, false, false, false, false, false, false, false, false, false, false, false, false, false, false, false, false, false, false] rfl rfl (any_of HT_.out (by kernel_rfl)) (fun _ _ _ h => h) (Or.inl ⟨by rfl, ?_⟩) ?_ ?_
               rotate_left; (intro w'; go_simp; with_reducible rfl); rotate_left; (simp only [Act.put, List.setIfInBounds_toArray, List.set_cons_zero, List.set_cons_succ, i64_w, i32_w]; rfl)
               refine pure_ (i := 10) (N := some 127) (v := ?_) (a' := ?_) #[true, true, false, true, true, false, true, true, false, true, true, false, false, false, false, false, false, false, false, false, false, false, false, false, false, false, false, false, false, false, false, false] rfl rfl (any_of HT_.out (by kernel_rfl)) (fun _ _ _ h => h) (Or.inl ⟨by rfl, ?_⟩) ?_ ?_
               rotate_left; (intro w'; go_simp; with_reducible rfl); rotate_left; (simp only [Act.put, List.setIfInBounds_toArray, List.set_cons_zero, List.set_cons_succ, i64_w, i32_w]; rfl)
               refine pure_ (i := 12) (N := some 129) (v := ?_) (a' := ?_) #[true, true, false, true, true, false, true, true, false, true, true, false, true, false, false, false, false, false, false, false, false, false, false, false, false, false, false, false, false, false, false, false] rfl rfl (any_of HT_.out (by kernel_rfl)) (fun _ _ _ h => h) (Or.inl ⟨by rfl, ?_⟩) ?_ ?_
               rotate_left; (intro w'; go_simp; with_reducible rfl); rotate_left; (simp only [Act.put, List.setIfInBounds_toArray, List.set_cons_zero, List.set_cons_succ, i64_w, i32_w]; rfl)
               refine pure_ (i := 13) (N := some 130) (v := ?_) (a' := ?_) #[true, true, false, true, true, false, true, true, false, true, true, false, true, true, false, false, false, false, false, false, false, false, false, false, false, false, false, false, false, false, false, false] rfl rfl (any_of HT_.out (by kernel_rfl)) (fun _ _ _ h => h) (Or.inl ⟨by rfl, ?_⟩) ?_ ?_
               rotate_left; (intro w'; go_simp; with_reducible rfl); rotate_left; (simp only [Act.put, List.setIfInBounds_toArray, List.set_cons_zero, List.set_cons_succ, i64_w, i32_w]; rfl)
               refine pure_ (i := 15) (N := some 132) (v := ?_) (a' := ?_) #[true, true, false, true, true, false, true, true, false, true, true, false, true, true, false, true, false, false, false, false, false, false, false, false, false, false, false, false, false, false, false, false] rfl rfl (any_of HT_.out (by kernel_rfl)) (fun _ _ _ h => h) (Or.inl ⟨by rfl, ?_⟩) ?_ ?_
               rotate_left; (intro w'; go_simp; with_reducible rfl); rotate_left; (simp only [Act.put, List.setIfInBounds_toArray, List.set_cons_zero, List.set_cons_succ, i64_w, i32_w]; rfl)
               refine pure_ (i := 16) (N := some 133) (v := ?_) (a' := ?_) #[true, true, false, true, true, false, true, true, false, true, true, false, true, true, false, true, true, false, false, false, false, false, false, false, false, false, false, false, false, false, false, false] rfl rfl (any_of HT_.out (by kernel_rfl)) (fun _ _ _ h => h) (Or.inl ⟨by rfl, ?_⟩) ?_ ?_
               rotate_left; (intro w'; go_simp; with_reducible rfl); rotate_left; (simp only [Act.put, List.setIfInBounds_toArray, List.set_cons_zero, List.set_cons_succ, i64_w, i32_w]; rfl)
               refine pure_ (i := 18) (N := some 135) (v := ?_) (a' := ?_) #[true, true, false, true, true, false, true, true, false, true, true, false, true, true, false, true, true, false, true, false, false, false, false, false, false, false, false, false, false, false, false, false] rfl rfl (any_of HT_.out (by kernel_rfl)) (fun _ _ _ h => h) (Or.inl ⟨by rfl, ?_⟩) ?_ ?_
               rotate_left; (intro w'; go_simp; with_reducible rfl); rotate_left; (simp only [Act.put, List.setIfInBounds_toArray, List.set_cons_zero, List.set_cons_succ, i64_w, i32_w]; rfl)
               refine pure_ (i := 19) (N := some 136) (v := ?_) (a' := ?_) #[true, true, false, true, true, false, true, true, false, true, true, false, true, true, false, true, true, false, true, true, false, false, false, false, false, false, false, false, false, false, false, false] rfl rfl (any_of HT_.out (by kernel_rfl)) (fun _ _ _ h => h) (Or.inl ⟨by rfl, ?_⟩) ?_ ?_
               rotate_left; (intro w'; go_simp; with_reducible rfl); rotate_left; (simp only [Act.put, List.setIfInBounds_toArray, List.set_cons_zero, List.set_cons_succ, i64_w, i32_w]; rfl)
               refine pure_ (i := 21) (N := some 138) (v := ?_) (a' := ?_) #[true, true, false, true, true, false, true, true, false, true, true, false, true, true, false, true, true, false, true, true, false, true, false, false, false, false, false, false, false, false, false, false] rfl rfl (any_of HT_.out (by kernel_rfl)) (fun _ _ _ h => h) (Or.inl ⟨by rfl, ?_⟩) ?_ ?_
               rotate_left; (intro w'; go_simp; with_reducible rfl); rotate_left; (simp only [Act.put, List.setIfInBounds_toArray, List.set_cons_zero, List.set_cons_succ, i64_w, i32_w]; rfl)
               refine pure_ (i := 22) (N := some 139) (v := ?_) (a' := ?_) #[true, true, false, true, true, false, true, true, false, true, true, false, true, true, false, true, true, false, true, true, false, true, true, false, false, false, false, false, false, false, false, false] rfl rfl (any_of HT_.out (by kernel_rfl)) (fun _ _ _ h => h) (Or.inl ⟨by rfl, ?_⟩) ?_ ?_
               rotate_left; (intro w'; go_simp; with_reducible rfl); rotate_left; (simp only [Act.put, List.setIfInBounds_toArray, List.set_cons_zero, List.set_cons_succ, i64_w, i32_w]; rfl)
               refine take_ (i := 2) (N := some 119) (v := ?_) (a' := ?_) #[true, true, true, true, true, false, true, true, false, true, true, false, true, true, false, true, true, false, true, true, false, true, true, false, false, false, false, false, false, false, false, false] rfl rfl (take_ofW HT_.out HW_.out (by kernel_rfl)) (fun _ _ _ h => h) (Or.inl ⟨by rfl, ?_⟩) hHeld ?_ ?_
               rotate_left; (rintro w' ⟨s0, s1, s2, s3, s4, s5, s6, s7⟩; go_simp; with_reducible rfl); rotate_left; (simp only [Act.put, List.setIfInBounds_toArray, List.set_cons_zero, List.set_cons_succ, i64_w, i32_w]; rfl)
               refine pure_ (i := 24) (N := some 13) (v := ?_) (a' := ?_) #[true, true, true, true, true, false, true, true, false, true, true, false, true, true, false, true, true, false, true, true, false, true, true, false, true, false, false, false, false, false, false, false] rfl rfl (any_of HT_.out (by kernel_rfl)) (fun _ _ _ h => h) (Or.inl ⟨by rfl, ?_⟩) ?_ ?_
               rotate_left; (intro w'; go_simp; with_reducible rfl); rotate_left; (simp only [Act.put, List.setIfInBounds_toArray, List.set_cons_zero, List.set_cons_succ, i64_w, i32_w]; rfl)
               refine take_ (i := 5) (N := some 122) (v := ?_) (a' := ?_) #[true, true, true, true, true, true, true, true, false, true, true, false, true, true, false, true, true, false, true, true, false, true, true, false, true, false, false, false, false, false, false, false] rfl rfl (take_ofW HT_.out HW_.out (by kernel_rfl)) (fun _ _ _ h => h) (Or.inl ⟨by rfl, ?_⟩) hHeld ?_ ?_
               rotate_left; (rintro w' ⟨s0, s1, s2, s3, s4, s5, s6, s7⟩; go_simp; with_reducible rfl); rotate_left; (simp only [Act.put, List.setIfInBounds_toArray, List.set_cons_zero, List.set_cons_succ, i64_w, i32_w]; rfl)
               refine pure_ (i := 25) (N := some 14) (v := ?_) (a' := ?_) #[true, true, true, true, true, true, true, true, false, true, true, false, true, true, false, true, true, false, true, true, false, true, true, false, true, true, false, false, false, false, false, false] rfl rfl (any_of HT_.out (by kernel_rfl)) (fun _ _ _ h => h) (Or.inl ⟨by rfl, ?_⟩) ?_ ?_
               rotate_left; (intro w'; go_simp; with_reducible rfl); rotate_left; (simp only [Act.put, List.setIfInBounds_toArray, List.set_cons_zero, List.set_cons_succ, i64_w, i32_w]; rfl)
               refine take_ (i := 8) (N := some 125) (v := ?_) (a' := ?_) #[true, true, true, true, true, true, true, true, true, true, true, false, true, true, false, true, true, false, true, true, false, true, true, false, true, true, false, false, false, false, false, false] rfl rfl (take_ofW HT_.out HW_.out (by kernel_rfl)) (fun _ _ _ h => h) (Or.inl ⟨by rfl, ?_⟩) hHeld ?_ ?_
               rotate_left; (rintro w' ⟨s0, s1, s2, s3, s4, s5, s6, s7⟩; go_simp; with_reducible rfl); rotate_left; (simp only [Act.put, List.setIfInBounds_toArray, List.set_cons_zero, List.set_cons_succ, i64_w, i32_w]; rfl)
               refine pure_ (i := 26) (N := some 15) (v := ?_) (a' := ?_) #[true, true, true, true, true, true, true, true, true, true, true, false, true, true, false, true, true, false, true, true, false, true, true, false, true, true, true, false, false, false, false, false] rfl rfl (any_of HT_.out (by kernel_rfl)) (fun _ _ _ h => h) (Or.inl ⟨by rfl, ?_⟩) ?_ ?_
               rotate_left; (intro w'; go_simp; with_reducible rfl); rotate_left; (simp only [Act.put, List.setIfInBounds_toArray, List.set_cons_zero, List.set_cons_succ, i64_w, i32_w]; rfl)
               refine take_ (i := 11) (N := some 128) (v := ?_) (a' := ?_) #[true, true, true, true, true, true, true, true, true, true, true, true, true, true, false, true, true, false, true, true, false, true, true, false, true, true, true, false, false, false, false, false] rfl rfl (take_ofW HT_.out HW_.out (by kernel_rfl)) (fun _ _ _ h => h) (Or.inl ⟨by rfl, ?_⟩) hHeld ?_ ?_
               rotate_left; (rintro w' ⟨s0, s1, s2, s3, s4, s5, s6, s7⟩; go_simp; with_reducible rfl); rotate_left; (simp only [Act.put, List.setIfInBounds_toArray, List.set_cons_zero, List.set_cons_succ, i64_w, i32_w]; rfl)
               refine pure_ (i := 27) (N := some 16) (v := ?_) (a' := ?_) #[true, true, true, true, true, true, true, true, true, true, true, true, true, true, false, true, true, false, true, true, false, true, true, false, true, true, true, true, false, false, false, false] rfl rfl (any_of HT_.out (by kernel_rfl)) (fun _ _ _ h => h) (Or.inl ⟨by rfl, ?_⟩) ?_ ?_
               rotate_left; (intro w'; go_simp; with_reducible rfl); rotate_left; (simp only [Act.put, List.setIfInBounds_toArray, List.set_cons_zero, List.set_cons_succ, i64_w, i32_w]; rfl)
               refine take_ (i := 14) (N := some 131) (v := ?_) (a' := ?_) #[true, true, true, true, true, true, true, true, true, true, true, true, true, true, true, true, true, false, true, true, false, true, true, false, true, true, true, true, false, false, false, false] rfl rfl (take_ofW HT_.out HW_.out (by kernel_rfl)) (fun _ _ _ h => h) (Or.inl ⟨by rfl, ?_⟩) hHeld ?_ ?_
               rotate_left; (rintro w' ⟨s0, s1, s2, s3, s4, s5, s6, s7⟩; go_simp; with_reducible rfl); rotate_left; (simp only [Act.put, List.setIfInBounds_toArray, List.set_cons_zero, List.set_cons_succ, i64_w, i32_w]; rfl)
               refine pure_ (i := 28) (N := some 17) (v := ?_) (a' := ?_) #[true, true, true, true, true, true, true, true, true, true, true, true, true, true, true, true, true, false, true, true, false, true, true, false, true, true, true, true, true, false, false, false] rfl rfl (any_of HT_.out (by kernel_rfl)) (fun _ _ _ h => h) (Or.inl ⟨by rfl, ?_⟩) ?_ ?_
               rotate_left; (intro w'; go_simp; with_reducible rfl); rotate_left; (simp only [Act.put, List.setIfInBounds_toArray, List.set_cons_zero, List.set_cons_succ, i64_w, i32_w]; rfl)
               refine take_ (i := 17) (N := some 134) (v := ?_) (a' := ?_) #[true, true, true, true, true, true, true, true, true, true, true, true, true, true, true, true, true, true, true, true, false, true, true, false, true, true, true, true, true, false, false, false] rfl rfl (take_ofW HT_.out HW_.out (by kernel_rfl)) (fun _ _ _ h => h) (Or.inl ⟨by rfl, ?_⟩) hHeld ?_ ?_
               rotate_left; (rintro w' ⟨s0, s1, s2, s3, s4, s5, s6, s7⟩; go_simp; with_reducible rfl); rotate_left; (simp only [Act.put, List.setIfInBounds_toArray, List.set_cons_zero, List.set_cons_succ, i64_w, i32_w]; rfl)
               refine pure_ (i := 29) (N := some 18) (v := ?_) (a' := ?_) #[true, true, true, true, true, true, true, true, true, true, true, true, true, true, true, true, true, true, true, true, false, true, true, false, true, true, true, true, true, true, false, false] rfl rfl (any_of HT_.out (by kernel_rfl)) (fun _ _ _ h => h) (Or.inl ⟨by rfl, ?_⟩) ?_ ?_
               rotate_left; (intro w'; go_simp; with_reducible rfl); rotate_left; (simp only [Act.put, List.setIfInBounds_toArray, List.set_cons_zero, List.set_cons_succ, i64_w, i32_w]; rfl)
               refine take_ (i := 20) (N := some 137) (v := ?_) (a' := ?_) #[true, true, true, true, true, true, true, true, true, true, true, true, true, true, true, true, true, true, true, true, true, true, true, false, true, true, true, true, true, true, false, false] rfl rfl (take_ofW HT_.out HW_.out (by kernel_rfl)) (fun _ _ _ h => h) (Or.inl ⟨by rfl, ?_⟩) hHeld ?_ ?_
               rotate_left; (rintro w' ⟨s0, s1, s2, s3, s4, s5, s6, s7⟩; go_simp; with_reducible rfl); rotate_left; (simp only [Act.put, List.setIfInBounds_toArray, List.set_cons_zero, List.set_cons_succ, i64_w, i32_w]; rfl)
               refine pure_ (i := 30) (N := some 19) (v := ?_) (a' := ?_) #[true, true, true, true, true, true, true, true, true, true, true, true, true, true, true, true, true, true, true, true, true, true, true, false, true, true, true, true, true, true, true, false] rfl rfl (any_of HT_.out (by kernel_rfl)) (fun _ _ _ h => h) (Or.inl ⟨by rfl, ?_⟩) ?_ ?_
               rotate_left; (intro w'; go_simp; with_reducible rfl); rotate_left; (simp only [Act.put, List.setIfInBounds_toArray, List.set_cons_zero, List.set_cons_succ, i64_w, i32_w]; rfl)
               refine take_ (i := 23) (N := some 140) (v := ?_) (a' := ?_) #[true, true, true, true, true, true, true, true, true, true, true, true, true, true, true, true, true, true, true, true, true, true, true, true, true, true, true, true, true, true, true, false] rfl rfl (take_ofW HT_.out HW_.out (by kernel_rfl)) (fun _ _ _ h => h) (Or.inl ⟨by rfl, ?_⟩) hHeld ?_ ?_
               rotate_left; (rintro w' ⟨s0, s1, s2, s3, s4, s5, s6, s7⟩; go_simp; with_reducible rfl); rotate_left; (simp only [Act.put, List.setIfInBounds_toArray, List.set_cons_zero, List.set_cons_succ, i64_w, i32_w]; rfl)
               refine pure_ (i := 31) (N := some 20) (v := ?_) (a' := ?_) #[true, true, true, true, true, true, true, true, true, true, true, true, true, true, true, true, true, true, true, true, true, true, true, true, true, true, true, true, true, true, true, true] rfl rfl (any_of HT_.out (by kernel_rfl)) (fun _ _ _ h => h) (Or.inl ⟨by rfl, ?_⟩) ?_ ?_
               rotate_left; (intro w'; go_simp; with_reducible rfl); rotate_left; (simp only [Act.put, List.setIfInBounds_toArray, List.set_cons_zero, List.set_cons_succ, i64_w, i32_w]; rfl)
               refine done_ (done_of HT_.out (by kernel_rfl)) ?_
               try go_wp2
               go_loopg [13, 14, 15, 16, 17, 18, 19, 20, 21] k2 (fun kq v13 v14 v15 v16 v17 v18 v19 v20 v21 w' => ∃ (x13_3 : Int) (x14_3 : Int) (x15_3 : Int) (x16_3 : Int) (x17_3 : Int) (x18_3 : Int) (x19_3 : Int) (x20_3 : Int) (x21_3 : Int), v13 = .int .u32 x13_3 ∧ v14 = .int .u32 x14_3 ∧ v15 = .int .u32 x15_3 ∧ v16 = .int .u32 x16_3 ∧ v17 = .int .u32 x17_3 ∧ v18 = .int .u32 x18_3 ∧ v19 = .int .u32 x19_3 ∧ v20 = .int .u32 x20_3 ∧ v21 = .int .i64 x21_3 ∧ Aside0 (certpathref01_round.l2 kq l0 y174 x6_2 x13_3 x14_3 x15_3 x16_3 x17_3 x18_3 x19_3 x20_3 x21_3 = some r) ∧ Aside0 (kq ≤ k2) ∧ Aside0 (Kd.R (Kd.int .u32) 35 w' w.heap.size (fun _ => True) v175 y174) ∧ Aside0 (Kd.R (Kd.int .u32) 52 w' w.heap.size (fun _ => True) (.slice (some ⟨go7, 0, none⟩) 64 64) x6_2) ∧ Aside0 (Below w.heap.size w w'))
               case atStart => exact ⟨(rd l0 0), (rd l0 1), (rd l0 2), (rd l0 3), (rd l0 4), (rd l0 5), (rd l0 6), (rd l0 7), (0), (by first | rfl | (simp; done) | (simp [*]; done)), (by first | rfl | (simp; done) | (simp [*]; done)), (by first | rfl | (simp; done) | (simp [*]; done)), (by first | rfl | (simp; done) | (simp [*]; done)), (by first | rfl | (simp; done) | (simp [*]; done)), (by first | rfl | (simp; done) | (simp [*]; done)), (by first | rfl | (simp; done) | (simp [*]; done)), (by first | rfl | (simp; done) | (simp [*]; done)), (by first | rfl | (simp; done) | (simp [*]; done)), H', ⟨Nat.le_refl _⟩, ⟨by (with_reducible repeat (first | apply Kd.R_alloc | apply Kd.R_drewN | apply Kd.R_drew)); exact HO_5.out⟩, ⟨by (with_reducible repeat (first | apply Kd.R_alloc | apply Kd.R_drewN | apply Kd.R_drew)); exact HO_6.out⟩, ⟨by repeat (first | (with_reducible first | exact HB.out | apply below_alloc | apply pw_below_drewN | apply below_drew1) | exact HB.out)⟩⟩
               case round =>
                clear H'
                try clear p1
                try clear q1
                try clear hx1
                try clear qi1
                try clear p2
                try clear c3
                try clear c4
                try clear p4
                try clear q4
                try clear hx4
                try clear hf4
                try clear c5
                try clear p6
                try clear p18
                try clear q18
                try clear hx18
                try clear qi18
                try clear p19
                try clear q19
                try clear hx19
                try clear qi19
                try clear c30
                try clear c30b0
                try clear c32
                try clear c33
                try clear c35
                try clear c36
                try clear c38
                try clear c39
                try clear c41
                try clear c42
                try clear c43
                try clear c44
                try clear p45
                try clear q45
                try clear hx45
                try clear hf45
                try clear c49
                try clear c49b0
                try clear c49b1
                try clear c50
                try clear c50b0
                try clear c50b1
                try clear c51
                try clear c51b0
                try clear c51b1
                try clear c52
                try clear c52b0
                try clear c52b1
                try clear c53
                try clear c53b0
                try clear c53b1
                try clear c54
                try clear c54b0
                try clear c54b1
                try clear c55
                try clear c55b0
                try clear c55b1
                try clear c56
                try clear c56b0
                try clear c56b1
                try clear hx183_0
                try clear hx184_0
                try clear hx186_0
                try clear hx187_0
                try clear hx188_0
                try clear hx189_0
                try clear hx190_0
                try clear hx191_0
                try clear hx192_0
                try clear hx193_0
                try clear hx45_0
                try clear p184
                try clear p186
                try clear p187
                try clear p188
                try clear p189
                try clear p190
                try clear p191
                try clear p192
                try clear p193
                try clear p45
                try clear q184
                try clear q186
                try clear q187
                try clear q188
                try clear q189
                try clear q190
                try clear q191
                try clear q192
                try clear q193
                try clear q45
                obtain ⟨x13_3, x14_3, x15_3, x16_3, x17_3, x18_3, x19_3, x20_3, x21_3, rfl, rfl, rfl, rfl, rfl, rfl, rfl, rfl, rfl, HA, HK3, HO_5, HO_6, HB⟩ := hrel
                cases gk with
                | zero => exact absurd HA.out (by simp [certpathref01_round.l2])
                | succ k3 =>
                 have H := HA.out
                 clear HA
                 simp only [certpathref01_round.l2] at H
                 by_cases c58 : x21_3 < 64
                 ·rw [if_pos c58] at H
                  have c58b0 : decide (x21_3 < 64) = true := decide_eq_true c58
                  clear c58
                  by_cases c59 : 0 ≤ x21_3
                  ·rw [if_pos c59] at H
                   have c59b0 : decide (0 ≤ x21_3) = true := decide_eq_true c59
                   clear c59
                   by_cases c60 : x21_3 < (y174.length : Int)
                   ·rw [if_pos c60] at H
                    have c60b0 : decide (x21_3 < (y174.length : Int)) = true := decide_eq_true c60
                    clear c60
                    by_cases c61 : x21_3 < (64 : Int)
                    ·rw [if_pos c61] at H
                     have c61b0 : decide (x21_3 < (64 : Int)) = true := decide_eq_true c61
                     clear c61
                     have H' := Aside0.mk H
                     clear H
                     try go_wp2
                     have n0_ := Aside0.mk (Kd.R_drew HO_5.out)
                     have n1_ := Aside0.mk (Kd.R_drew HO_6.out)
                     have n2_ := Aside0.mk (below_drew1 HB.out)
                     clear HO_5
                     clear HO_6
                     clear HB
                     have HO_5 := n0_
                     have HO_6 := n1_
                     have HB := n2_
                     clear n0_ n1_ n2_
                     obtain ⟨Ao63, co63, eo63⟩ := Kd.R_slice HO_5.out
                     (first | subst eo63 | (injection eo63 with f1_ f2_ f3_; have f4_ := f1_.symm; have f5_ := f3_.symm; clear f1_ f2_ f3_; subst f4_; subst f5_))
                     have p194 : 0 ≤ (x21_3 : Int) := of_decide_eq_true (by first | (with_reducible assumption) | assumption)
                     have q194 : x21_3 < (y174.length : Int) := of_decide_eq_true (by first | (with_reducible assumption) | assumption)
                     obtain ⟨ad194, e194, hx194_0⟩ := Kd.at_int (Kd.R_reads' HO_5.out).2.2 x21_3 p194 q194
                     cases e194
                     replace p194 := eq_true p194
                     replace q194 := eq_true q194
                     have p195 : 0 ≤ (x21_3 : Int) := of_decide_eq_true (by first | (with_reducible assumption) | assumption)
                     have q195 : x21_3 < (x6_2.length : Int) := (by have h_ : (x21_3 : Int) < ((64 : Int) : Int) := of_decide_eq_true (by first | (with_reducible assumption) | assumption); have e_ := (Kd.R_reads' HO_6.out).1; omega)
                     have ql195 : ((x21_3 : Int) < ((64 : Int) : Int)) = True := eq_true (of_decide_eq_true (by first | (with_reducible assumption) | assumption))
                     obtain ⟨ad195, e195, hx195_0⟩ := Kd.at_int (Kd.R_reads' HO_6.out).2.2 x21_3 p195 q195
                     obtain rfl : (⟨go7, 0, none⟩ : Addr) = ad195 := (by injection e195)
                     (first | simp only [add_plain] at hx195_0 | simp only [add_at] at hx195_0 | simp only [Addr.add, Nat.zero_add] at hx195_0 | skip)
                     replace p195 := eq_true p195
                     replace q195 := eq_true q195
                     refine start_ (n := 22) (S := fun w' => w'.cell? (ad194.add (x21_3).toNat) = some (.int .u32 (rd y174 x21_3)) ∧ w'.cell? ⟨go7, (x21_3).toNat, none⟩ = some (.int .u32 (rd x6_2 x21_3))) (ds := []) #[false, false, false, false, false, false, false, false, false, false, false, false, false, false, false, false, false, false, false, false, false, false] (by kernel_rfl) rfl rfl ⟨hx194_0, hx195_0⟩ (fun hHeld => ?_); refine with_tabW certpathref01_round.tab19 certpathref01_round.bits19 (fun HT_ HW_ => ?_)
                     generalize wr.drew = w62 at HO_5 HO_6 HB hx194_0 hx195_0 hHeld ⊢
                     refine pure_ (i := 0) (N := some 162) (v := ?_) (a' := ?_) #[true, false, false, false, false, false, false, false, false, false, false, false, false, false, false, false, false, false, false, false, false, false] rfl rfl (any_of HT_.out (by kernel_rfl)) (fun _ _ _ h => h) (Or.inl ⟨by rfl, ?_⟩) ?_ ?_
                     rotate_left; (intro w'; go_simp; with_reducible rfl); rotate_left; (simp only [Act.put, List.setIfInBounds_toArray, List.set_cons_zero, List.set_cons_succ, i64_w, i32_w]; rfl)
                     refine pure_ (i := 1) (N := some 163) (v := ?_) (a' := ?_) #[true, true, false, false, false, false, false, false, false, false, false, false, false, false, false, false, false, false, false, false, false, false] rfl rfl (any_of HT_.out (by kernel_rfl)) (fun _ _ _ h => h) (Or.inl ⟨by rfl, ?_⟩) ?_ ?_
                     rotate_left; (intro w'; go_simp; with_reducible rfl); rotate_left; (simp only [Act.put, List.setIfInBounds_toArray, List.set_cons_zero, List.set_cons_succ, i64_w, i32_w]; rfl)
                     refine pure_ (i := 2) (N := some 164) (v := ?_) (a' := ?_) #[true, true, true, false, false, false, false, false, false, false, false, false, false, false, false, false, false, false, false, false, false, false] rfl rfl (any_of HT_.out (by kernel_rfl)) (fun _ _ _ h => h) (Or.inl ⟨by rfl, ?_⟩) ?_ ?_
                     rotate_left; (intro w'; go_simp; with_reducible rfl); rotate_left; (simp only [Act.put, List.setIfInBounds_toArray, List.set_cons_zero, List.set_cons_succ, i64_w, i32_w]; rfl)
                     refine pure_ (i := 3) (N := some 165) (v := ?_) (a' := ?_) #[true, true, true, true, false, false, false, false, false, false, false, false, false, false, false, false, false, false, false, false, false, false] rfl rfl (any_of HT_.out (by kernel_rfl)) (fun _ _ _ h => h) (Or.inl ⟨by rfl, ?_⟩) ?_ ?_
                     rotate_left; (intro w'; go_simp; with_reducible rfl); rotate_left; (simp only [Act.put, List.setIfInBounds_toArray, List.set_cons_zero, List.set_cons_succ, i64_w, i32_w]; rfl)
                     refine pure_ (i := 4) (N := some 166) (v := ?_) (a' := ?_) #[true, true, true, true, true, false, false, false, false, false, false, false, false, false, false, false, false, false, false, false, false, false] rfl rfl (any_of HT_.out (by kernel_rfl)) (fun _ _ _ h => h) (Or.inl ⟨by rfl, ?_⟩) ?_ ?_
                     rotate_left; (intro w'; go_simp; with_reducible rfl); rotate_left; (simp only [Act.put, List.setIfInBounds_toArray, List.set_cons_zero, List.set_cons_succ, i64_w, i32_w]; rfl)
                     refine pure_ (i := 5) (N := some 167) (v := ?_) (a' := ?_) #[true, true, true, true, true, true, false, false, false, false, false, false, false, false, false, false, false, false, false, false, false, false] rfl rfl (any_of HT_.out (by kernel_rfl)) (fun _ _ _ h => h) (Or.inl ⟨by rfl, ?_⟩) ?_ ?_
                     rotate_left; (intro w'; go_simp; with_reducible rfl); rotate_left; (simp only [Act.put, List.setIfInBounds_toArray, List.set_cons_zero, List.set_cons_succ, i64_w, i32_w]; rfl)
                     refine pure_ (i := 6) (N := some 168) (v := ?_) (a' := ?_) #[true, true, true, true, true, true, true, false, false, false, false, false, false, false, false, false, false, false, false, false, false, false] rfl rfl (any_of HT_.out (by kernel_rfl)) (fun _ _ _ h => h) (Or.inl ⟨by rfl, ?_⟩) ?_ ?_
                     rotate_left; (intro w'; go_simp; with_reducible rfl); rotate_left; (simp only [Act.put, List.setIfInBounds_toArray, List.set_cons_zero, List.set_cons_succ, i64_w, i32_w]; rfl)
                     refine pure_ (i := 7) (N := some 169) (v := ?_) (a' := ?_) #[true, true, true, true, true, true, true, true, false, false, false, false, false, false, false, false, false, false, false, false, false, false] rfl rfl (any_of HT_.out (by kernel_rfl)) (fun _ _ _ h => h) (Or.inl ⟨by rfl, ?_⟩) ?_ ?_
                     rotate_left; (intro w'; go_simp; with_reducible rfl); rotate_left; (simp only [Act.put, List.setIfInBounds_toArray, List.set_cons_zero, List.set_cons_succ, i64_w, i32_w]; rfl)
                     refine pure_ (i := 8) (N := some 170) (v := ?_) (a' := ?_) #[true, true, true, true, true, true, true, true, true, false, false, false, false, false, false, false, false, false, false, false, false, false] rfl rfl (any_of HT_.out (by kernel_rfl)) (fun _ _ _ h => h) (Or.inl ⟨by rfl, ?_⟩) ?_ ?_
                     rotate_left; (intro w'; go_simp; with_reducible rfl); rotate_left; (simp only [Act.put, List.setIfInBounds_toArray, List.set_cons_zero, List.set_cons_succ, i64_w, i32_w]; rfl)
                     refine pure_ (i := 9) (N := some 171) (v := ?_) (a' := ?_) #[true, true, true, true, true, true, true, true, true, true, false, false, false, false, false, false, false, false, false, false, false, false] rfl rfl (any_of HT_.out (by kernel_rfl)) (fun _ _ _ h => h) (Or.inl ⟨by rfl, ?_⟩) ?_ ?_
                     rotate_left; (intro w'; go_simp; with_reducible rfl); rotate_left; (simp only [Act.put, List.setIfInBounds_toArray, List.set_cons_zero, List.set_cons_succ, i64_w, i32_w]; rfl)
                     refine pure_ (i := 10) (N := some 172) (v := ?_) (a' := ?_) #[true, true, true, true, true, true, true, true, true, true, true, false, false, false, false, false, false, false, false, false, false, false] rfl rfl (any_of HT_.out (by kernel_rfl)) (fun _ _ _ h => h) (Or.inl ⟨by rfl, ?_⟩) ?_ ?_
                     rotate_left; (intro w'; go_simp; with_reducible rfl); rotate_left; (simp only [Act.put, List.setIfInBounds_toArray, List.set_cons_zero, List.set_cons_succ, i64_w, i32_w]; rfl)
                     refine pure_ (i := 11) (N := some 173) (v := ?_) (a' := ?_) #[true, true, true, true, true, true, true, true, true, true, true, true, false, false, false, false, false, false, false, false, false, false] rfl rfl (any_of HT_.out (by kernel_rfl)) (fun _ _ _ h => h) (Or.inl ⟨by rfl, ?_⟩) ?_ ?_
                     rotate_left; (intro w'; go_simp; with_reducible rfl); rotate_left; (simp only [Act.put, List.setIfInBounds_toArray, List.set_cons_zero, List.set_cons_succ, i64_w, i32_w]; rfl)
                     refine pure_ (i := 12) (N := some 174) (v := ?_) (a' := ?_) #[true, true, true, true, true, true, true, true, true, true, true, true, true, false, false, false, false, false, false, false, false, false] rfl rfl (any_of HT_.out (by kernel_rfl)) (fun _ _ _ h => h) (Or.inl ⟨by rfl, ?_⟩) ?_ ?_
                     rotate_left; (intro w'; go_simp; with_reducible rfl); rotate_left; (simp only [Act.put, List.setIfInBounds_toArray, List.set_cons_zero, List.set_cons_succ, i64_w, i32_w]; rfl)
                     refine pure_ (i := 13) (N := some 175) (v := ?_) (a' := ?_) #[true, true, true, true, true, true, true, true, true, true, true, true, true, true, false, false, false, false, false, false, false, false] rfl rfl (any_of HT_.out (by kernel_rfl)) (fun _ _ _ h => h) (Or.inl ⟨by rfl, ?_⟩) ?_ ?_
                     rotate_left; (intro w'; go_simp; with_reducible rfl); rotate_left; (simp only [Act.put, List.setIfInBounds_toArray, List.set_cons_zero, List.set_cons_succ, i64_w, i32_w]; rfl)
                     refine pure_ (i := 14) (N := some 176) (v := ?_) (a' := ?_) #[true, true, true, true, true, true, true, true, true, true, true, true, true, true, true, false, false, false, false, false, false, false] rfl rfl (any_of HT_.out (by kernel_rfl)) (fun _ _ _ h => h) (Or.inl ⟨by rfl, ?_⟩) ?_ ?_
                     rotate_left; (intro w'; go_simp; with_reducible rfl); rotate_left; (simp only [Act.put, List.setIfInBounds_toArray, List.set_cons_zero, List.set_cons_succ, i64_w, i32_w]; rfl)
                     refine pure_ (i := 17) (N := some 179) (v := ?_) (a' := ?_) #[true, true, true, true, true, true, true, true, true, true, true, true, true, true, true, false, false, true, false, false, false, false] rfl rfl (any_of HT_.out (by kernel_rfl)) (fun _ _ _ h => h) (Or.inl ⟨by rfl, ?_⟩) ?_ ?_
                     rotate_left; (intro w'; go_simp; with_reducible rfl); rotate_left; (simp only [Act.put, List.setIfInBounds_toArray, List.set_cons_zero, List.set_cons_succ, i64_w, i32_w]; rfl)
                     refine pure_ (i := 18) (N := some 180) (v := ?_) (a' := ?_) #[true, true, true, true, true, true, true, true, true, true, true, true, true, true, true, false, false, true, true, false, false, false] rfl rfl (any_of HT_.out (by kernel_rfl)) (fun _ _ _ h => h) (Or.inl ⟨by rfl, ?_⟩) ?_ ?_
                     rotate_left; (intro w'; go_simp; with_reducible rfl); rotate_left; (simp only [Act.put, List.setIfInBounds_toArray, List.set_cons_zero, List.set_cons_succ, i64_w, i32_w]; rfl)
                     refine take_ (i := 15) (N := some 177) (v := ?_) (a' := ?_) #[true, true, true, true, true, true, true, true, true, true, true, true, true, true, true, true, false, true, true, false, false, false] rfl rfl (take_ofW HT_.out HW_.out (by kernel_rfl)) (fun _ _ _ h => h) (Or.inl ⟨by rfl, ?_⟩) hHeld ?_ ?_
                     rotate_left; (rintro w' ⟨s0, s1⟩; go_simp; with_reducible rfl); rotate_left; (simp only [Act.put, List.setIfInBounds_toArray, List.set_cons_zero, List.set_cons_succ, i64_w, i32_w]; rfl)
                     refine pure_ (i := 16) (N := some 178) (v := ?_) (a' := ?_) #[true, true, true, true, true, true, true, true, true, true, true, true, true, true, true, true, true, true, true, false, false, false] rfl rfl (any_of HT_.out (by kernel_rfl)) (fun _ _ _ h => h) (Or.inl ⟨by rfl, ?_⟩) ?_ ?_
                     rotate_left; (intro w'; go_simp; with_reducible rfl); rotate_left; (simp only [Act.put, List.setIfInBounds_toArray, List.set_cons_zero, List.set_cons_succ, i64_w, i32_w]; rfl)
                     refine take_ (i := 19) (N := some 181) (v := ?_) (a' := ?_) #[true, true, true, true, true, true, true, true, true, true, true, true, true, true, true, true, true, true, true, true, false, false] rfl rfl (take_ofW HT_.out HW_.out (by kernel_rfl)) (fun _ _ _ h => h) (Or.inl ⟨by rfl, ?_⟩) hHeld ?_ ?_
                     rotate_left; (rintro w' ⟨s0, s1⟩; go_simp; with_reducible rfl); rotate_left; (simp only [Act.put, List.setIfInBounds_toArray, List.set_cons_zero, List.set_cons_succ, i64_w, i32_w]; rfl)
                     refine pure_ (i := 20) (N := some 182) (v := ?_) (a' := ?_) #[true, true, true, true, true, true, true, true, true, true, true, true, true, true, true, true, true, true, true, true, true, false] rfl rfl (any_of HT_.out (by kernel_rfl)) (fun _ _ _ h => h) (Or.inl ⟨by rfl, ?_⟩) ?_ ?_
                     rotate_left; (intro w'; go_simp; with_reducible rfl); rotate_left; (simp only [Act.put, List.setIfInBounds_toArray, List.set_cons_zero, List.set_cons_succ, i64_w, i32_w]; rfl)
                     refine pure_ (i := 21) (N := some 23) (v := ?_) (a' := ?_) #[true, true, true, true, true, true, true, true, true, true, true, true, true, true, true, true, true, true, true, true, true, true] rfl rfl (any_of HT_.out (by kernel_rfl)) (fun _ _ _ h => h) (Or.inl ⟨by rfl, ?_⟩) ?_ ?_
                     rotate_left; (intro w'; go_simp; with_reducible rfl); rotate_left; (simp only [Act.put, List.setIfInBounds_toArray, List.set_cons_zero, List.set_cons_succ, i64_w, i32_w]; rfl)
                     refine done_ (done_of HT_.out (by kernel_rfl)) ?_
                     try go_wp2
                     go_roundg k3
                     case measure => have := HK1.out; have := HK2.out; have := HK3.out; omega
                     case rel => exact ⟨((((((x20_3 + (Go.bits .xor .u32 (Go.bits .xor .u32 (Go.bits .or .u32 (x17_3 / 64) ((x17_3 * 67108864) % 4294967296)) (Go.bits .or .u32 (x17_3 / 2048) ((x17_3 * 2097152) % 4294967296))) (Go.bits .or .u32 (x17_3 / 33554432) ((x17_3 * 128) % 4294967296)))) + (Go.bits .xor .u32 (Go.bits .and .u32 x17_3 x18_3) (Go.bits .and .u32 (Go.bits .xor .u32 4294967295 x17_3) x19_3))) + (rd y174 x21_3)) + (rd x6_2 x21_3)) + ((Go.bits .xor .u32 (Go.bits .xor .u32 (Go.bits .or .u32 (x13_3 / 4) ((x13_3 * 1073741824) % 4294967296)) (Go.bits .or .u32 (x13_3 / 8192) ((x13_3 * 524288) % 4294967296))) (Go.bits .or .u32 (x13_3 / 4194304) ((x13_3 * 1024) % 4294967296))) + (Go.bits .xor .u32 (Go.bits .xor .u32 (Go.bits .and .u32 x13_3 x14_3) (Go.bits .and .u32 x13_3 x15_3)) (Go.bits .and .u32 x14_3 x15_3)))) % 4294967296), (x13_3), (x14_3), (x15_3), ((x16_3 + ((((x20_3 + (Go.bits .xor .u32 (Go.bits .xor .u32 (Go.bits .or .u32 (x17_3 / 64) ((x17_3 * 67108864) % 4294967296)) (Go.bits .or .u32 (x17_3 / 2048) ((x17_3 * 2097152) % 4294967296))) (Go.bits .or .u32 (x17_3 / 33554432) ((x17_3 * 128) % 4294967296)))) + (Go.bits .xor .u32 (Go.bits .and .u32 x17_3 x18_3) (Go.bits .and .u32 (Go.bits .xor .u32 4294967295 x17_3) x19_3))) + (rd y174 x21_3)) + (rd x6_2 x21_3))) % 4294967296), (x17_3), (x18_3), (x19_3), (wrap64 (x21_3 + 1)), (by first | rfl | (simp; done) | (simp [*]; done)), (by first | rfl | (simp; done) | (simp [*]; done)), (by first | rfl | (simp; done) | (simp [*]; done)), (by first | rfl | (simp; done) | (simp [*]; done)), (by first | rfl | (simp; done) | (simp [*]; done)), (by first | rfl | (simp; done) | (simp [*]; done)), (by first | rfl | (simp; done) | (simp [*]; done)), (by first | rfl | (simp; done) | (simp [*]; done)), (by first | rfl | (simp; done) | (simp [*]; done)), H', ⟨by have := HK1.out; have := HK2.out; have := HK3.out; omega⟩, ⟨by (with_reducible repeat (first | apply Kd.R_alloc | apply Kd.R_drewN | apply Kd.R_drew)); exact HO_5.out⟩, ⟨by (with_reducible repeat (first | apply Kd.R_alloc | apply Kd.R_drewN | apply Kd.R_drew)); exact HO_6.out⟩, ⟨by repeat (first | (with_reducible first | exact HB.out | apply below_alloc | apply pw_below_drewN | apply below_drew1) | exact HB.out)⟩⟩
                    ·rw [if_neg c61] at H
                     exact absurd H (by simp)
                   ·rw [if_neg c60] at H
                    exact absurd H (by simp)
                  ·rw [if_neg c59] at H
                   exact absurd H (by simp)
                 ·rw [if_neg c58] at H
                  have c58b0 : decide (x21_3 < 64) = false := decide_eq_false c58
                  clear c58
                  by_cases c64 : 0 < (l0.length : Int)
                  ·rw [if_pos c64] at H
                   have c64b0 : decide (0 < (l0.length : Int)) = true := decide_eq_true c64
                   have c64b1 : decide (0 < l0.length) = true := decide_eq_true (by omega)
                   clear c64
                   by_cases c65 : 1 < (l0.length : Int)
                   ·rw [if_pos c65] at H
                    have c65b0 : decide (1 < (l0.length : Int)) = true := decide_eq_true c65
                    have c65b1 : decide (1 < l0.length) = true := decide_eq_true (by omega)
                    clear c65
                    by_cases c66 : 2 < (l0.length : Int)
                    ·rw [if_pos c66] at H
                     have c66b0 : decide (2 < (l0.length : Int)) = true := decide_eq_true c66
                     have c66b1 : decide (2 < l0.length) = true := decide_eq_true (by omega)
                     clear c66
                     by_cases c67 : 3 < (l0.length : Int)
                     ·rw [if_pos c67] at H
                      have c67b0 : decide (3 < (l0.length : Int)) = true := decide_eq_true c67
                      have c67b1 : decide (3 < l0.length) = true := decide_eq_true (by omega)
                      clear c67
                      by_cases c68 : 4 < (l0.length : Int)
                      ·rw [if_pos c68] at H
                       have c68b0 : decide (4 < (l0.length : Int)) = true := decide_eq_true c68
                       have c68b1 : decide (4 < l0.length) = true := decide_eq_true (by omega)
                       clear c68
                       by_cases c69 : 5 < (l0.length : Int)
                       ·rw [if_pos c69] at H
                        have c69b0 : decide (5 < (l0.length : Int)) = true := decide_eq_true c69
                        have c69b1 : decide (5 < l0.length) = true := decide_eq_true (by omega)
                        clear c69
                        by_cases c70 : 6 < (l0.length : Int)
                        ·rw [if_pos c70] at H
                         have c70b0 : decide (6 < (l0.length : Int)) = true := decide_eq_true c70
                         have c70b1 : decide (6 < l0.length) = true := decide_eq_true (by omega)
                         clear c70
                         by_cases c71 : 7 < (l0.length : Int)
                         ·rw [if_pos c71] at H
                          have c71b0 : decide (7 < (l0.length : Int)) = true := decide_eq_true c71
                          have c71b1 : decide (7 < l0.length) = true := decide_eq_true (by omega)
                          clear c71
                          obtain ⟨y204, hy204⟩ : ∃ y_ : List Int, y_ = (([((rd l0 0) + x13_3) % 4294967296, ((rd l0 1) + x14_3) % 4294967296, ((rd l0 2) + x15_3) % 4294967296, ((rd l0 3) + x16_3) % 4294967296, ((rd l0 4) + x17_3) % 4294967296, ((rd l0 5) + x18_3) % 4294967296, ((rd l0 6) + x19_3) % 4294967296, ((rd l0 7) + x20_3) % 4294967296] : List Int)) := ⟨_, rfl⟩
                          replace H : (some y204) = some r := by first | (rw [hy204]; with_reducible exact H) | (have H2_ := (Option.bind_some _ _).symm.trans H; rw [hy204]; with_reducible exact H2_) | (have H2_ := (Option.bind_some _ _).symm.trans H; with_reducible exact H2_) | with_reducible exact H | (rw [hy204]; exact H) | exact H
                          have Ny204 := Aside0.mk hy204
                          clear hy204
                          obtain rfl := Option.some.inj H
                          try go_wp2
                          have n0_ := Aside0.mk (Kd.R_drew HO_5.out)
                          have n1_ := Aside0.mk (Kd.R_drew HO_6.out)
                          have n2_ := Aside0.mk (below_drew1 HB.out)
                          clear HO_5
                          clear HO_6
                          clear HB
                          have HO_5 := n0_
                          have HO_6 := n1_
                          have HB := n2_
                          clear n0_ n1_ n2_
                          have p196 : 0 ≤ (0 : Int) := (by omega)
                          have q196 : 0 < (l0.length : Int) := of_decide_eq_true (by first | (with_reducible assumption) | assumption)
                          obtain ⟨ad196, e196, hx196_0⟩ := Kd.at_int HR0.out 0 p196 q196
                          have hw196_0 := hx196_0
                          (try rw [show ((0 : Int)).toNat = 0 from rfl] at hw196_0)
                          (try rw [show 0 * 1 = 0 from rfl] at hw196_0)
                          (try rw [Addr.add_zero'] at hw196_0)
                          obtain rfl : ad186 = ad196 := (by injection e196)
                          have qi196 : (0 < l0.length) = True := eq_true (by omega)
                          (try rw [show ((0 : Int)).toNat = 0 from rfl] at hx196_0)
                          (try rw [Addr.add_zero'] at hx196_0)
                          replace hx196_0 := (HB.out.cell (World.block_lt_of_cell? w _ hx196_0)).trans hx196_0
                          replace p196 := eq_true p196
                          replace q196 := eq_true q196
                          have p197 : 0 ≤ (1 : Int) := (by omega)
                          have q197 : 1 < (l0.length : Int) := of_decide_eq_true (by first | (with_reducible assumption) | assumption)
                          obtain ⟨ad197, e197, hx197_0⟩ := Kd.at_int HR0.out 1 p197 q197
                          have hw197_0 := hx197_0
                          (try rw [show ((1 : Int)).toNat = 1 from rfl] at hw197_0)
                          (try rw [show 1 * 1 = 1 from rfl] at hw197_0)
                          (try simp only [Nat.reduceMul, Nat.reduceEqDiff, Go.Addr.add, ↓reduceIte] at hw197_0)
                          obtain rfl : ad186 = ad197 := (by injection e197)
                          (try simp only [show (1 : Int).toNat = 1 from rfl, Nat.reduceMul, Nat.reduceEqDiff, Go.Addr.add, ↓reduceIte] at hx197_0)
                          have qi197 : (1 < l0.length) = True := eq_true (by omega)
                          (try rw [show ((1 : Int)).toNat = 1 from rfl] at hx197_0)
                          replace hx197_0 := (HB.out.cell (World.block_lt_of_cell? w _ hx197_0)).trans hx197_0
                          replace p197 := eq_true p197
                          replace q197 := eq_true q197
                          have p198 : 0 ≤ (2 : Int) := (by omega)
                          have q198 : 2 < (l0.length : Int) := of_decide_eq_true (by first | (with_reducible assumption) | assumption)
                          obtain ⟨ad198, e198, hx198_0⟩ := Kd.at_int HR0.out 2 p198 q198
                          have hw198_0 := hx198_0
                          (try rw [show ((2 : Int)).toNat = 2 from rfl] at hw198_0)
                          (try rw [show 2 * 1 = 2 from rfl] at hw198_0)
                          (try simp only [Nat.reduceMul, Nat.reduceEqDiff, Go.Addr.add, ↓reduceIte] at hw198_0)
                          obtain rfl : ad186 = ad198 := (by injection e198)
                          (try simp only [show (2 : Int).toNat = 2 from rfl, Nat.reduceMul, Nat.reduceEqDiff, Go.Addr.add, ↓reduceIte] at hx198_0)
                          have qi198 : (2 < l0.length) = True := eq_true (by omega)
                          (try rw [show ((2 : Int)).toNat = 2 from rfl] at hx198_0)
                          replace hx198_0 := (HB.out.cell (World.block_lt_of_cell? w _ hx198_0)).trans hx198_0
                          replace p198 := eq_true p198
                          replace q198 := eq_true q198
                          have p199 : 0 ≤ (3 : Int) := (by omega)
                          have q199 : 3 < (l0.length : Int) := of_decide_eq_true (by first | (with_reducible assumption) | assumption)
                          obtain ⟨ad199, e199, hx199_0⟩ := Kd.at_int HR0.out 3 p199 q199
                          have hw199_0 := hx199_0
                          (try rw [show ((3 : Int)).toNat = 3 from rfl] at hw199_0)
                          (try rw [show 3 * 1 = 3 from rfl] at hw199_0)
                          (try simp only [Nat.reduceMul, Nat.reduceEqDiff, Go.Addr.add, ↓reduceIte] at hw199_0)
                          obtain rfl : ad186 = ad199 := (by injection e199)
                          (try simp only [show (3 : Int).toNat = 3 from rfl, Nat.reduceMul, Nat.reduceEqDiff, Go.Addr.add, ↓reduceIte] at hx199_0)
                          have qi199 : (3 < l0.length) = True := eq_true (by omega)
                          (try rw [show ((3 : Int)).toNat = 3 from rfl] at hx199_0)
                          replace hx199_0 := (HB.out.cell (World.block_lt_of_cell? w _ hx199_0)).trans hx199_0
                          replace p199 := eq_true p199
                          replace q199 := eq_true q199
                          have p200 : 0 ≤ (4 : Int) := (by omega)
                          have q200 : 4 < (l0.length : Int) := of_decide_eq_true (by first | (with_reducible assumption) | assumption)
                          obtain ⟨ad200, e200, hx200_0⟩ := Kd.at_int HR0.out 4 p200 q200
                          have hw200_0 := hx200_0
                          (try rw [show ((4 : Int)).toNat = 4 from rfl] at hw200_0)
                          (try rw [show 4 * 1 = 4 from rfl] at hw200_0)
                          (try simp only [Nat.reduceMul, Nat.reduceEqDiff, Go.Addr.add, ↓reduceIte] at hw200_0)
                          obtain rfl : ad186 = ad200 := (by injection e200)
                          (try simp only [show (4 : Int).toNat = 4 from rfl, Nat.reduceMul, Nat.reduceEqDiff, Go.Addr.add, ↓reduceIte] at hx200_0)
                          have qi200 : (4 < l0.length) = True := eq_true (by omega)
                          (try rw [show ((4 : Int)).toNat = 4 from rfl] at hx200_0)
                          replace hx200_0 := (HB.out.cell (World.block_lt_of_cell? w _ hx200_0)).trans hx200_0
                          replace p200 := eq_true p200
                          replace q200 := eq_true q200
                          have p201 : 0 ≤ (5 : Int) := (by omega)
                          have q201 : 5 < (l0.length : Int) := of_decide_eq_true (by first | (with_reducible assumption) | assumption)
                          obtain ⟨ad201, e201, hx201_0⟩ := Kd.at_int HR0.out 5 p201 q201
                          have hw201_0 := hx201_0
                          (try rw [show ((5 : Int)).toNat = 5 from rfl] at hw201_0)
                          (try rw [show 5 * 1 = 5 from rfl] at hw201_0)
                          (try simp only [Nat.reduceMul, Nat.reduceEqDiff, Go.Addr.add, ↓reduceIte] at hw201_0)
                          obtain rfl : ad186 = ad201 := (by injection e201)
                          (try simp only [show (5 : Int).toNat = 5 from rfl, Nat.reduceMul, Nat.reduceEqDiff, Go.Addr.add, ↓reduceIte] at hx201_0)
                          have qi201 : (5 < l0.length) = True := eq_true (by omega)
                          (try rw [show ((5 : Int)).toNat = 5 from rfl] at hx201_0)
                          replace hx201_0 := (HB.out.cell (World.block_lt_of_cell? w _ hx201_0)).trans hx201_0
                          replace p201 := eq_true p201
                          replace q201 := eq_true q201
                          have p202 : 0 ≤ (6 : Int) := (by omega)
                          have q202 : 6 < (l0.length : Int) := of_decide_eq_true (by first | (with_reducible assumption) | assumption)
                          obtain ⟨ad202, e202, hx202_0⟩ := Kd.at_int HR0.out 6 p202 q202
                          have hw202_0 := hx202_0
                          (try rw [show ((6 : Int)).toNat = 6 from rfl] at hw202_0)
                          (try rw [show 6 * 1 = 6 from rfl] at hw202_0)
                          (try simp only [Nat.reduceMul, Nat.reduceEqDiff, Go.Addr.add, ↓reduceIte] at hw202_0)
                          obtain rfl : ad186 = ad202 := (by injection e202)
                          (try simp only [show (6 : Int).toNat = 6 from rfl, Nat.reduceMul, Nat.reduceEqDiff, Go.Addr.add, ↓reduceIte] at hx202_0)
                          have qi202 : (6 < l0.length) = True := eq_true (by omega)
                          (try rw [show ((6 : Int)).toNat = 6 from rfl] at hx202_0)
                          replace hx202_0 := (HB.out.cell (World.block_lt_of_cell? w _ hx202_0)).trans hx202_0
                          replace p202 := eq_true p202
                          replace q202 := eq_true q202
                          have p203 : 0 ≤ (7 : Int) := (by omega)
                          have q203 : 7 < (l0.length : Int) := of_decide_eq_true (by first | (with_reducible assumption) | assumption)
                          obtain ⟨ad203, e203, hx203_0⟩ := Kd.at_int HR0.out 7 p203 q203
                          have hw203_0 := hx203_0
                          (try rw [show ((7 : Int)).toNat = 7 from rfl] at hw203_0)
                          (try rw [show 7 * 1 = 7 from rfl] at hw203_0)
                          (try simp only [Nat.reduceMul, Nat.reduceEqDiff, Go.Addr.add, ↓reduceIte] at hw203_0)
                          obtain rfl : ad186 = ad203 := (by injection e203)
                          (try simp only [show (7 : Int).toNat = 7 from rfl, Nat.reduceMul, Nat.reduceEqDiff, Go.Addr.add, ↓reduceIte] at hx203_0)
                          have qi203 : (7 < l0.length) = True := eq_true (by omega)
                          (try rw [show ((7 : Int)).toNat = 7 from rfl] at hx203_0)
                          replace hx203_0 := (HB.out.cell (World.block_lt_of_cell? w _ hx203_0)).trans hx203_0
                          replace p203 := eq_true p203
                          replace q203 := eq_true q203
                          refine start_ (n := 42) (S := fun w' => w'.cell? ad186 = some (.int .u32 (rd l0 0)) ∧ w'.cell? ⟨ad186.block, ad186.off + 1, none⟩ = some (.int .u32 (rd l0 1)) ∧ w'.cell? ⟨ad186.block, ad186.off + 2, none⟩ = some (.int .u32 (rd l0 2)) ∧ w'.cell? ⟨ad186.block, ad186.off + 3, none⟩ = some (.int .u32 (rd l0 3)) ∧ w'.cell? ⟨ad186.block, ad186.off + 4, none⟩ = some (.int .u32 (rd l0 4)) ∧ w'.cell? ⟨ad186.block, ad186.off + 5, none⟩ = some (.int .u32 (rd l0 5)) ∧ w'.cell? ⟨ad186.block, ad186.off + 6, none⟩ = some (.int .u32 (rd l0 6)) ∧ w'.cell? ⟨ad186.block, ad186.off + 7, none⟩ = some (.int .u32 (rd l0 7))) (ds := []) #[false, false, false, false, false, false, false, false, false, false, false, false, false, false, false, false, false, false, false, false, false, false, false, false, false, false, false, false, false, false, false, false, false, false, false, false, false, false, false, false, false, false] (by kernel_rfl) rfl rfl ⟨((HB.out.cell (World.block_lt_of_cell? w _ hw196_0)).trans hw196_0), ((HB.out.cell (World.block_lt_of_cell? w _ hw197_0)).trans hw197_0), ((HB.out.cell (World.block_lt_of_cell? w _ hw198_0)).trans hw198_0), ((HB.out.cell (World.block_lt_of_cell? w _ hw199_0)).trans hw199_0), ((HB.out.cell (World.block_lt_of_cell? w _ hw200_0)).trans hw200_0), ((HB.out.cell (World.block_lt_of_cell? w _ hw201_0)).trans hw201_0), ((HB.out.cell (World.block_lt_of_cell? w _ hw202_0)).trans hw202_0), ((HB.out.cell (World.block_lt_of_cell? w _ hw203_0)).trans hw203_0)⟩ (fun hHeld => ?_); refine with_tabW certpathref01_round.tab23 certpathref01_round.bits23 (fun HT_ HW_ => ?_)
                          generalize wr.drew = w72 at HO_5 HO_6 HB hx196_0 hx197_0 hx198_0 hx199_0 hx200_0 hx201_0 hx202_0 hx203_0 hHeld ⊢
                          refine pure_ (i := 0) (N := some 225) (v := ?_) (a' := ?_) #[true, false, false, false, false, false, false, false, false, false, false, false, false, false, false, false, false, false, false, false, false, false, false, false, false, false, false, false, false, false, false, false, false, false, false, false, false, false, false, false, false, false] rfl rfl (any_of HT_.out (by kernel_rfl)) (fun _ _ _ h => h) (Or.inl ⟨by rfl, ?_⟩) ?_ ?_
                          rotate_left; (intro w'; go_simp; with_reducible rfl); rotate_left; (simp only [Act.put, List.setIfInBounds_toArray, List.set_cons_zero, List.set_cons_succ, i64_w, i32_w]; rfl)
                          refine pure_ (i := 1) (N := some 226) (v := ?_) (a' := ?_) #[true, true, false, false, false, false, false, false, false, false, false, false, false, false, false, false, false, false, false, false, false, false, false, false, false, false, false, false, false, false, false, false, false, false, false, false, false, false, false, false, false, false] rfl rfl (any_of HT_.out (by kernel_rfl)) (fun _ _ _ h => h) (Or.inl ⟨by rfl, ?_⟩) ?_ ?_
                          rotate_left; (intro w'; go_simp; with_reducible rfl); rotate_left; (simp only [Act.put, List.setIfInBounds_toArray, List.set_cons_zero, List.set_cons_succ, i64_w, i32_w]; rfl)
                          refine pure_ (i := 3) (N := some 228) (v := ?_) (a' := ?_) #[true, true, false, true, false, false, false, false, false, false, false, false, false, false, false, false, false, false, false, false, false, false, false, false, false, false, false, false, false, false, false, false, false, false, false, false, false, false, false, false, false, false] rfl rfl (any_of HT_.out (by kernel_rfl)) (fun _ _ _ h => h) (Or.inl ⟨by rfl, ?_⟩) ?_ ?_
                          rotate_left; (intro w'; go_simp; with_reducible rfl); rotate_left; (simp only [Act.put, List.setIfInBounds_toArray, List.set_cons_zero, List.set_cons_succ, i64_w, i32_w]; rfl)
                          refine pure_ (i := 5) (N := some 230) (v := ?_) (a' := ?_) #[true, true, false, true, false, true, false, false, false, false, false, false, false, false, false, false, false, false, false, false, false, false, false, false, false, false, false, false, false, false, false, false, false, false, false, false, false, false, false, false, false, false] rfl rfl (any_of HT_.out (by kernel_rfl)) (fun _ _ _ h => h) (Or.inl ⟨by rfl, ?_⟩) ?_ ?_
                          rotate_left; (intro w'; go_simp; with_reducible rfl); rotate_left; (simp only [Act.put, List.setIfInBounds_toArray, List.set_cons_zero, List.set_cons_succ, i64_w, i32_w]; rfl)
                          refine pure_ (i := 6) (N := some 231) (v := ?_) (a' := ?_) #[true, true, false, true, false, true, true, false, false, false, false, false, false, false, false, false, false, false, false, false, false, false, false, false, false, false, false, false, false, false, false, false, false, false, false, false, false, false, false, false, false, false] rfl rfl (any_of HT_.out (by kernel_rfl)) (fun _ _ _ h => h) (Or.inl ⟨by rfl, ?_⟩) ?_ ?_
                          rotate_left; (intro w'; go_simp; with_reducible rfl); rotate_left; (simp only [Act.put, List.setIfInBounds_toArray, List.set_cons_zero, List.set_cons_succ, i64_w, i32_w]; rfl)
                          refine pure_ (i := 8) (N := some 233) (v := ?_) (a' := ?_) #[true, true, false, true, false, true, true, false, true, false, false, false, false, false, false, false, false, false, false, false, false, false, false, false, false, false, false, false, false, false, false, false, false, false, false, false, false, false, false, false, false, false] rfl rfl (any_of HT_.out (by kernel_rfl)) (fun _ _ _ h => h) (Or.inl ⟨by rfl, ?_⟩) ?_ ?_
                          rotate_left; (intro w'; go_simp; with_reducible rfl); rotate_left; (simp only [Act.put, List.setIfInBounds_toArray, List.set_cons_zero, List.set_cons_succ, i64_w, i32_w]; rfl)
                          refine pure_ (i := 10) (N := some 235) (v := ?_) (a' := ?_) #[true, true, false, true, false, true, true, false, true, false, true, false, false, false, false, false, false, false, false, false, false, false, false, false, false, false, false, false, false, false, false, false, false, false, false, false, false, false, false, false, false, false] rfl rfl (any_of HT_.out (by kernel_rfl)) (fun _ _ _ h => h) (Or.inl ⟨by rfl, ?_⟩) ?_ ?_
                          rotate_left; (intro w'; go_simp; with_reducible rfl); rotate_left; (simp only [Act.put, List.setIfInBounds_toArray, List.set_cons_zero, List.set_cons_succ, i64_w, i32_w]; rfl)
                          refine pure_ (i := 11) (N := some 236) (v := ?_) (a' := ?_) #[true, true, false, true, false, true, true, false, true, false, true, true, false, false, false, false, false, false, false, false, false, false, false, false, false, false, false, false, false, false, false, false, false, false, false, false, false, false, false, false, false, false] rfl rfl (any_of HT_.out (by kernel_rfl)) (fun _ _ _ h => h) (Or.inl ⟨by rfl, ?_⟩) ?_ ?_
                          rotate_left; (intro w'; go_simp; with_reducible rfl); rotate_left; (simp only [Act.put, List.setIfInBounds_toArray, List.set_cons_zero, List.set_cons_succ, i64_w, i32_w]; rfl)
                          refine pure_ (i := 13) (N := some 238) (v := ?_) (a' := ?_) #[true, true, false, true, false, true, true, false, true, false, true, true, false, true, false, false, false, false, false, false, false, false, false, false, false, false, false, false, false, false, false, false, false, false, false, false, false, false, false, false, false, false] rfl rfl (any_of HT_.out (by kernel_rfl)) (fun _ _ _ h => h) (Or.inl ⟨by rfl, ?_⟩) ?_ ?_
                          rotate_left; (intro w'; go_simp; with_reducible rfl); rotate_left; (simp only [Act.put, List.setIfInBounds_toArray, List.set_cons_zero, List.set_cons_succ, i64_w, i32_w]; rfl)
                          refine pure_ (i := 15) (N := some 240) (v := ?_) (a' := ?_) #[true, true, false, true, false, true, true, false, true, false, true, true, false, true, false, true, false, false, false, false, false, false, false, false, false, false, false, false, false, false, false, false, false, false, false, false, false, false, false, false, false, false] rfl rfl (any_of HT_.out (by kernel_rfl)) (fun _ _ _ h => h) (Or.inl ⟨by rfl, ?_⟩) ?_ ?_
                          rotate_left; (intro w'; go_simp; with_reducible rfl); rotate_left; (simp only [Act.put, List.setIfInBounds_toArray, List.set_cons_zero, List.set_cons_succ, i64_w, i32_w]; rfl)
                          refine pure_ (i := 16) (N := some 241) (v := ?_) (a' := ?_) #[true, true, false, true, false, true, true, false, true, false, true, true, false, true, false, true, true, false, false, false, false, false, false, false, false, false, false, false, false, false, false, false, false, false, false, false, false, false, false, false, false, false] rfl rfl (any_of HT_.out (by kernel_rfl)) (fun _ _ _ h => h) (Or.inl ⟨by rfl, ?_⟩) ?_ ?_
                          rotate_left; (intro w'; go_simp; with_reducible rfl); rotate_left; (simp only [Act.put, List.setIfInBounds_toArray, List.set_cons_zero, List.set_cons_succ, i64_w, i32_w]; rfl)
                          refine pure_ (i := 18) (N := some 243) (v := ?_) (a' := ?_) #[true, true, false, true, false, true, true, false, true, false, true, true, false, true, false, true, true, false, true, false, false, false, false, false, false, false, false, false, false, false, false, false, false, false, false, false, false, false, false, false, false, false] rfl rfl (any_of HT_.out (by kernel_rfl)) (fun _ _ _ h => h) (Or.inl ⟨by rfl, ?_⟩) ?_ ?_
                          rotate_left; (intro w'; go_simp; with_reducible rfl); rotate_left; (simp only [Act.put, List.setIfInBounds_toArray, List.set_cons_zero, List.set_cons_succ, i64_w, i32_w]; rfl)
                          refine pure_ (i := 20) (N := some 245) (v := ?_) (a' := ?_) #[true, true, false, true, false, true, true, false, true, false, true, true, false, true, false, true, true, false, true, false, true, false, false, false, false, false, false, false, false, false, false, false, false, false, false, false, false, false, false, false, false, false] rfl rfl (any_of HT_.out (by kernel_rfl)) (fun _ _ _ h => h) (Or.inl ⟨by rfl, ?_⟩) ?_ ?_
                          rotate_left; (intro w'; go_simp; with_reducible rfl); rotate_left; (simp only [Act.put, List.setIfInBounds_toArray, List.set_cons_zero, List.set_cons_succ, i64_w, i32_w]; rfl)
                          refine pure_ (i := 21) (N := some 246) (v := ?_) (a' := ?_) #[true, true, false, true, false, true, true, false, true, false, true, true, false, true, false, true, true, false, true, false, true, true, false, false, false, false, false, false, false, false, false, false, false, false, false, false, false, false, false, false, false, false] rfl rfl (any_of HT_.out (by kernel_rfl)) (fun _ _ _ h => h) (Or.inl ⟨by rfl, ?_⟩) ?_ ?_
                          rotate_left; (intro w'; go_simp; with_reducible rfl); rotate_left; (simp only [Act.put, List.setIfInBounds_toArray, List.set_cons_zero, List.set_cons_succ, i64_w, i32_w]; rfl)
                          refine pure_ (i := 23) (N := some 248) (v := ?_) (a' := ?_) #[true, true, false, true, false, true, true, false, true, false, true, true, false, true, false, true, true, false, true, false, true, true, false, true, false, false, false, false, false, false, false, false, false, false, false, false, false, false, false, false, false, false] rfl rfl (any_of HT_.out (by kernel_rfl)) (fun _ _ _ h => h) (Or.inl ⟨by rfl, ?_⟩) ?_ ?_
                          rotate_left; (intro w'; go_simp; with_reducible rfl); rotate_left; (simp only [Act.put, List.setIfInBounds_toArray, List.set_cons_zero, List.set_cons_succ, i64_w, i32_w]; rfl)
                          refine pure_ (i := 25) (N := some 250) (v := ?_) (a' := ?_) #[true, true, false, true, false, true, true, false, true, false, true, true, false, true, false, true, true, false, true, false, true, true, false, true, false, true, false, false, false, false, false, false, false, false, false, false, false, false, false, false, false, false] rfl rfl (any_of HT_.out (by kernel_rfl)) (fun _ _ _ h => h) (Or.inl ⟨by rfl, ?_⟩) ?_ ?_
                          rotate_left; (intro w'; go_simp; with_reducible rfl); rotate_left; (simp only [Act.put, List.setIfInBounds_toArray, List.set_cons_zero, List.set_cons_succ, i64_w, i32_w]; rfl)
                          refine pure_ (i := 26) (N := some 251) (v := ?_) (a' := ?_) #[true, true, false, true, false, true, true, false, true, false, true, true, false, true, false, true, true, false, true, false, true, true, false, true, false, true, true, false, false, false, false, false, false, false, false, false, false, false, false, false, false, false] rfl rfl (any_of HT_.out (by kernel_rfl)) (fun _ _ _ h => h) (Or.inl ⟨by rfl, ?_⟩) ?_ ?_
                          rotate_left; (intro w'; go_simp; with_reducible rfl); rotate_left; (simp only [Act.put, List.setIfInBounds_toArray, List.set_cons_zero, List.set_cons_succ, i64_w, i32_w]; rfl)
                          refine pure_ (i := 28) (N := some 253) (v := ?_) (a' := ?_) #[true, true, false, true, false, true, true, false, true, false, true, true, false, true, false, true, true, false, true, false, true, true, false, true, false, true, true, false, true, false, false, false, false, false, false, false, false, false, false, false, false, false] rfl rfl (any_of HT_.out (by kernel_rfl)) (fun _ _ _ h => h) (Or.inl ⟨by rfl, ?_⟩) ?_ ?_
                          rotate_left; (intro w'; go_simp; with_reducible rfl); rotate_left; (simp only [Act.put, List.setIfInBounds_toArray, List.set_cons_zero, List.set_cons_succ, i64_w, i32_w]; rfl)
                          refine pure_ (i := 30) (N := some 255) (v := ?_) (a' := ?_) #[true, true, false, true, false, true, true, false, true, false, true, true, false, true, false, true, true, false, true, false, true, true, false, true, false, true, true, false, true, false, true, false, false, false, false, false, false, false, false, false, false, false] rfl rfl (any_of HT_.out (by kernel_rfl)) (fun _ _ _ h => h) (Or.inl ⟨by rfl, ?_⟩) ?_ ?_
                          rotate_left; (intro w'; go_simp; with_reducible rfl); rotate_left; (simp only [Act.put, List.setIfInBounds_toArray, List.set_cons_zero, List.set_cons_succ, i64_w, i32_w]; rfl)
                          refine pure_ (i := 31) (N := some 256) (v := ?_) (a' := ?_) #[true, true, false, true, false, true, true, false, true, false, true, true, false, true, false, true, true, false, true, false, true, true, false, true, false, true, true, false, true, false, true, true, false, false, false, false, false, false, false, false, false, false] rfl rfl (any_of HT_.out (by kernel_rfl)) (fun _ _ _ h => h) (Or.inl ⟨by rfl, ?_⟩) ?_ ?_
                          rotate_left; (intro w'; go_simp; with_reducible rfl); rotate_left; (simp only [Act.put, List.setIfInBounds_toArray, List.set_cons_zero, List.set_cons_succ, i64_w, i32_w]; rfl)
                          refine pure_ (i := 33) (N := some 258) (v := ?_) (a' := ?_) #[true, true, false, true, false, true, true, false, true, false, true, true, false, true, false, true, true, false, true, false, true, true, false, true, false, true, true, false, true, false, true, true, false, true, false, false, false, false, false, false, false, false] rfl rfl (any_of HT_.out (by kernel_rfl)) (fun _ _ _ h => h) (Or.inl ⟨by rfl, ?_⟩) ?_ ?_
                          rotate_left; (intro w'; go_simp; with_reducible rfl); rotate_left; (simp only [Act.put, List.setIfInBounds_toArray, List.set_cons_zero, List.set_cons_succ, i64_w, i32_w]; rfl)
                          refine pure_ (i := 35) (N := some 260) (v := ?_) (a' := ?_) #[true, true, false, true, false, true, true, false, true, false, true, true, false, true, false, true, true, false, true, false, true, true, false, true, false, true, true, false, true, false, true, true, false, true, false, true, false, false, false, false, false, false] rfl rfl (any_of HT_.out (by kernel_rfl)) (fun _ _ _ h => h) (Or.inl ⟨by rfl, ?_⟩) ?_ ?_
                          rotate_left; (intro w'; go_simp; with_reducible rfl); rotate_left; (simp only [Act.put, List.setIfInBounds_toArray, List.set_cons_zero, List.set_cons_succ, i64_w, i32_w]; rfl)
                          refine pure_ (i := 36) (N := some 261) (v := ?_) (a' := ?_) #[true, true, false, true, false, true, true, false, true, false, true, true, false, true, false, true, true, false, true, false, true, true, false, true, false, true, true, false, true, false, true, true, false, true, false, true, true, false, false, false, false, false] rfl rfl (any_of HT_.out (by kernel_rfl)) (fun _ _ _ h => h) (Or.inl ⟨by rfl, ?_⟩) ?_ ?_
                          rotate_left; (intro w'; go_simp; with_reducible rfl); rotate_left; (simp only [Act.put, List.setIfInBounds_toArray, List.set_cons_zero, List.set_cons_succ, i64_w, i32_w]; rfl)
                          refine pure_ (i := 38) (N := some 263) (v := ?_) (a' := ?_) #[true, true, false, true, false, true, true, false, true, false, true, true, false, true, false, true, true, false, true, false, true, true, false, true, false, true, true, false, true, false, true, true, false, true, false, true, true, false, true, false, false, false] rfl rfl (any_of HT_.out (by kernel_rfl)) (fun _ _ _ h => h) (Or.inl ⟨by rfl, ?_⟩) ?_ ?_
                          rotate_left; (intro w'; go_simp; with_reducible rfl); rotate_left; (simp only [Act.put, List.setIfInBounds_toArray, List.set_cons_zero, List.set_cons_succ, i64_w, i32_w]; rfl)
                          refine take_ (i := 2) (N := some 227) (v := ?_) (a' := ?_) #[true, true, true, true, false, true, true, false, true, false, true, true, false, true, false, true, true, false, true, false, true, true, false, true, false, true, true, false, true, false, true, true, false, true, false, true, true, false, true, false, false, false] rfl rfl (take_ofW HT_.out HW_.out (by kernel_rfl)) (fun _ _ _ h => h) (Or.inl ⟨by rfl, ?_⟩) hHeld ?_ ?_
                          rotate_left; (rintro w' ⟨s0, s1, s2, s3, s4, s5, s6, s7⟩; go_simp; with_reducible rfl); rotate_left; (simp only [Act.put, List.setIfInBounds_toArray, List.set_cons_zero, List.set_cons_succ, i64_w, i32_w]; rfl)
                          refine pure_ (i := 4) (N := some 229) (v := ?_) (a' := ?_) #[true, true, true, true, true, true, true, false, true, false, true, true, false, true, false, true, true, false, true, false, true, true, false, true, false, true, true, false, true, false, true, true, false, true, false, true, true, false, true, false, false, false] rfl rfl (any_of HT_.out (by kernel_rfl)) (fun _ _ _ h => h) (Or.inl ⟨by rfl, ?_⟩) ?_ ?_
                          rotate_left; (intro w'; go_simp; with_reducible rfl); rotate_left; (simp only [Act.put, List.setIfInBounds_toArray, List.set_cons_zero, List.set_cons_succ, i64_w, i32_w]; rfl)
                          refine take_ (i := 7) (N := some 232) (v := ?_) (a' := ?_) #[true, true, true, true, true, true, true, true, true, false, true, true, false, true, false, true, true, false, true, false, true, true, false, true, false, true, true, false, true, false, true, true, false, true, false, true, true, false, true, false, false, false] rfl rfl (take_ofW HT_.out HW_.out (by kernel_rfl)) (fun _ _ _ h => h) (Or.inl ⟨by rfl, ?_⟩) hHeld ?_ ?_
                          rotate_left; (rintro w' ⟨s0, s1, s2, s3, s4, s5, s6, s7⟩; go_simp; with_reducible rfl); rotate_left; (simp only [Act.put, List.setIfInBounds_toArray, List.set_cons_zero, List.set_cons_succ, i64_w, i32_w]; rfl)
                          refine pure_ (i := 9) (N := some 234) (v := ?_) (a' := ?_) #[true, true, true, true, true, true, true, true, true, true, true, true, false, true, false, true, true, false, true, false, true, true, false, true, false, true, true, false, true, false, true, true, false, true, false, true, true, false, true, false, false, false] rfl rfl (any_of HT_.out (by kernel_rfl)) (fun _ _ _ h => h) (Or.inl ⟨by rfl, ?_⟩) ?_ ?_
                          rotate_left; (intro w'; go_simp; with_reducible rfl); rotate_left; (simp only [Act.put, List.setIfInBounds_toArray, List.set_cons_zero, List.set_cons_succ, i64_w, i32_w]; rfl)
                          refine take_ (i := 12) (N := some 237) (v := ?_) (a' := ?_) #[true, true, true, true, true, true, true, true, true, true, true, true, true, true, false, true, true, false, true, false, true, true, false, true, false, true, true, false, true, false, true, true, false, true, false, true, true, false, true, false, false, false] rfl rfl (take_ofW HT_.out HW_.out (by kernel_rfl)) (fun _ _ _ h => h) (Or.inl ⟨by rfl, ?_⟩) hHeld ?_ ?_
                          rotate_left; (rintro w' ⟨s0, s1, s2, s3, s4, s5, s6, s7⟩; go_simp; with_reducible rfl); rotate_left; (simp only [Act.put, List.setIfInBounds_toArray, List.set_cons_zero, List.set_cons_succ, i64_w, i32_w]; rfl)
                          refine pure_ (i := 14) (N := some 239) (v := ?_) (a' := ?_) #[true, true, true, true, true, true, true, true, true, true, true, true, true, true, true, true, true, false, true, false, true, true, false, true, false, true, true, false, true, false, true, true, false, true, false, true, true, false, true, false, false, false] rfl rfl (any_of HT_.out (by kernel_rfl)) (fun _ _ _ h => h) (Or.inl ⟨by rfl, ?_⟩) ?_ ?_
                          rotate_left; (intro w'; go_simp; with_reducible rfl); rotate_left; (simp only [Act.put, List.setIfInBounds_toArray, List.set_cons_zero, List.set_cons_succ, i64_w, i32_w]; rfl)
                          refine take_ (i := 17) (N := some 242) (v := ?_) (a' := ?_) #[true, true, true, true, true, true, true, true, true, true, true, true, true, true, true, true, true, true, true, false, true, true, false, true, false, true, true, false, true, false, true, true, false, true, false, true, true, false, true, false, false, false] rfl rfl (take_ofW HT_.out HW_.out (by kernel_rfl)) (fun _ _ _ h => h) (Or.inl ⟨by rfl, ?_⟩) hHeld ?_ ?_
                          rotate_left; (rintro w' ⟨s0, s1, s2, s3, s4, s5, s6, s7⟩; go_simp; with_reducible rfl); rotate_left; (simp only [Act.put, List.setIfInBounds_toArray, List.set_cons_zero, List.set_cons_succ, i64_w, i32_w]; rfl)
                          refine pure_ (i := 19) (N := some 244) (v := ?_) (a' := ?_) #[true, true, true, true, true, true, true, true, true, true, true, true, true, true, true, true, true, true, true, true, true, true, false, true, false, true, true, false, true, false, true, true, false, true, false, true, true, false, true, false, false, false] rfl rfl (any_of HT_.out (by kernel_rfl)) (fun _ _ _ h => h) (Or.inl ⟨by rfl, ?_⟩) ?_ ?_
                          rotate_left; (intro w'; go_simp; with_reducible rfl); rotate_left; (simp only [Act.put, List.setIfInBounds_toArray, List.set_cons_zero, List.set_cons_succ, i64_w, i32_w]; rfl)
                          refine take_ (i := 22) (N := some 247) (v := ?_) (a' := ?_) #[true, true, true, true, true, true, true, true, true, true, true, true, true, true, true, true, true, true, true, true, true, true, true, true, false, true, true, false, true, false, true, true, false, true, false, true, true, false, true, false, false, false] rfl rfl (take_ofW HT_.out HW_.out (by kernel_rfl)) (fun _ _ _ h => h) (Or.inl ⟨by rfl, ?_⟩) hHeld ?_ ?_
                          rotate_left; (rintro w' ⟨s0, s1, s2, s3, s4, s5, s6, s7⟩; go_simp; with_reducible rfl); rotate_left; (simp only [Act.put, List.setIfInBounds_toArray, List.set_cons_zero, List.set_cons_succ, i64_w, i32_w]; rfl)
                          refine pure_ (i := 24) (N := some 249) (v := ?_) (a' := ?_) #[true, true, true, true, true, true, true, true, true, true, true, true, true, true, true, true, true, true, true, true, true, true, true, true, true, true, true, false, true, false, true, true, false, true, false, true, true, false, true, false, false, false] rfl rfl (any_of HT_.out (by kernel_rfl)) (fun _ _ _ h => h) (Or.inl ⟨by rfl, ?_⟩) ?_ ?_
                          rotate_left; (intro w'; go_simp; with_reducible rfl); rotate_left; (simp only [Act.put, List.setIfInBounds_toArray, List.set_cons_zero, List.set_cons_succ, i64_w, i32_w]; rfl)
                          refine take_ (i := 27) (N := some 252) (v := ?_) (a' := ?_) #[true, true, true, true, true, true, true, true, true, true, true, true, true, true, true, true, true, true, true, true, true, true, true, true, true, true, true, true, true, false, true, true, false, true, false, true, true, false, true, false, false, false] rfl rfl (take_ofW HT_.out HW_.out (by kernel_rfl)) (fun _ _ _ h => h) (Or.inl ⟨by rfl, ?_⟩) hHeld ?_ ?_
                          rotate_left; (rintro w' ⟨s0, s1, s2, s3, s4, s5, s6, s7⟩; go_simp; with_reducible rfl); rotate_left; (simp only [Act.put, List.setIfInBounds_toArray, List.set_cons_zero, List.set_cons_succ, i64_w, i32_w]; rfl)
                          refine pure_ (i := 29) (N := some 254) (v := ?_) (a' := ?_) #[true, true, true, true, true, true, true, true, true, true, true, true, true, true, true, true, true, true, true, true, true, true, true, true, true, true, true, true, true, true, true, true, false, true, false, true, true, false, true, false, false, false] rfl rfl (any_of HT_.out (by kernel_rfl)) (fun _ _ _ h => h) (Or.inl ⟨by rfl, ?_⟩) ?_ ?_
                          rotate_left; (intro w'; go_simp; with_reducible rfl); rotate_left; (simp only [Act.put, List.setIfInBounds_toArray, List.set_cons_zero, List.set_cons_succ, i64_w, i32_w]; rfl)
                          refine take_ (i := 32) (N := some 257) (v := ?_) (a' := ?_) #[true, true, true, true, true, true, true, true, true, true, true, true, true, true, true, true, true, true, true, true, true, true, true, true, true, true, true, true, true, true, true, true, true, true, false, true, true, false, true, false, false, false] rfl rfl (take_ofW HT_.out HW_.out (by kernel_rfl)) (fun _ _ _ h => h) (Or.inl ⟨by rfl, ?_⟩) hHeld ?_ ?_
                          rotate_left; (rintro w' ⟨s0, s1, s2, s3, s4, s5, s6, s7⟩; go_simp; with_reducible rfl); rotate_left; (simp only [Act.put, List.setIfInBounds_toArray, List.set_cons_zero, List.set_cons_succ, i64_w, i32_w]; rfl)
                          refine pure_ (i := 34) (N := some 259) (v := ?_) (a' := ?_) #[true, true, true, true, true, true, true, true, true, true, true, true, true, true, true, true, true, true, true, true, true, true, true, true, true, true, true, true, true, true, true, true, true, true, true, true, true, false, true, false, false, false] rfl rfl (any_of HT_.out (by kernel_rfl)) (fun _ _ _ h => h) (Or.inl ⟨by rfl, ?_⟩) ?_ ?_
                          rotate_left; (intro w'; go_simp; with_reducible rfl); rotate_left; (simp only [Act.put, List.setIfInBounds_toArray, List.set_cons_zero, List.set_cons_succ, i64_w, i32_w]; rfl)
                          refine take_ (i := 37) (N := some 262) (v := ?_) (a' := ?_) #[true, true, true, true, true, true, true, true, true, true, true, true, true, true, true, true, true, true, true, true, true, true, true, true, true, true, true, true, true, true, true, true, true, true, true, true, true, true, true, false, false, false] rfl rfl (take_ofW HT_.out HW_.out (by kernel_rfl)) (fun _ _ _ h => h) (Or.inl ⟨by rfl, ?_⟩) hHeld ?_ ?_
                          rotate_left; (rintro w' ⟨s0, s1, s2, s3, s4, s5, s6, s7⟩; go_simp; with_reducible rfl); rotate_left; (simp only [Act.put, List.setIfInBounds_toArray, List.set_cons_zero, List.set_cons_succ, i64_w, i32_w]; rfl)
                          refine pure_ (i := 39) (N := some 264) (v := ?_) (a' := ?_) #[true, true, true, true, true, true, true, true, true, true, true, true, true, true, true, true, true, true, true, true, true, true, true, true, true, true, true, true, true, true, true, true, true, true, true, true, true, true, true, true, false, false] rfl rfl (any_of HT_.out (by kernel_rfl)) (fun _ _ _ h => h) (Or.inl ⟨by rfl, ?_⟩) ?_ ?_
                          rotate_left; (intro w'; go_simp; with_reducible rfl); rotate_left; (simp only [Act.put, List.setIfInBounds_toArray, List.set_cons_zero, List.set_cons_succ, i64_w, i32_w]; rfl)
                          refine one_ (i := 40) (N := some 265) #[true, true, true, true, true, true, true, true, true, true, true, true, true, true, true, true, true, true, true, true, true, true, true, true, true, true, true, true, true, true, true, true, true, true, true, true, true, true, true, true, true, false] rfl rfl (one_of HT_.out (by kernel_rfl)) (by decide) (fun K hK => ?_)
                          refine Kd.R_lit_step (Kd.int .u32) _ 35 ?hg (N := 265) ?hd (xs := ([((rd l0 0) + x13_3) % 4294967296, ((rd l0 1) + x14_3) % 4294967296, ((rd l0 2) + x15_3) % 4294967296, ((rd l0 3) + x16_3) % 4294967296, ((rd l0 4) + x17_3) % 4294967296, ((rd l0 5) + x18_3) % 4294967296, ((rd l0 6) + x19_3) % 4294967296, ((rd l0 7) + x20_3) % 4294967296] : List Int)) (inner := [.int .u32 (((rd l0 0) + x13_3) % 4294967296), .int .u32 (((rd l0 1) + x14_3) % 4294967296), .int .u32 (((rd l0 2) + x15_3) % 4294967296), .int .u32 (((rd l0 3) + x16_3) % 4294967296), .int .u32 (((rd l0 4) + x17_3) % 4294967296), .int .u32 (((rd l0 5) + x18_3) % 4294967296), .int .u32 (((rd l0 6) + x19_3) % 4294967296), .int .u32 (((rd l0 7) + x20_3) % 4294967296)]) (ok := fun _ => True) (okp := fun _ => True) ?hr ?hp (fun _ hk => hk) trivial (Below.refl _ _) (Nat.le_refl _) (by simp) ?_; (case hd => rfl); (case hg => rfl); (case hr => first | (go_simp; done) | (go_simp; rfl)); (case hp => exact (Reps.one (show Kd.M (Kd.int .u32) _ _ _ (((rd l0 0) + x13_3) % 4294967296) [.int .u32 (((rd l0 0) + x13_3) % 4294967296)] from rfl) (Reps.one (show Kd.M (Kd.int .u32) _ _ _ (((rd l0 1) + x14_3) % 4294967296) [.int .u32 (((rd l0 1) + x14_3) % 4294967296)] from rfl) (Reps.one (show Kd.M (Kd.int .u32) _ _ _ (((rd l0 2) + x15_3) % 4294967296) [.int .u32 (((rd l0 2) + x15_3) % 4294967296)] from rfl) (Reps.one (show Kd.M (Kd.int .u32) _ _ _ (((rd l0 3) + x16_3) % 4294967296) [.int .u32 (((rd l0 3) + x16_3) % 4294967296)] from rfl) (Reps.one (show Kd.M (Kd.int .u32) _ _ _ (((rd l0 4) + x17_3) % 4294967296) [.int .u32 (((rd l0 4) + x17_3) % 4294967296)] from rfl) (Reps.one (show Kd.M (Kd.int .u32) _ _ _ (((rd l0 5) + x18_3) % 4294967296) [.int .u32 (((rd l0 5) + x18_3) % 4294967296)] from rfl) (Reps.one (show Kd.M (Kd.int .u32) _ _ _ (((rd l0 6) + x19_3) % 4294967296) [.int .u32 (((rd l0 6) + x19_3) % 4294967296)] from rfl) (Reps.one (show Kd.M (Kd.int .u32) _ _ _ (((rd l0 7) + x20_3) % 4294967296) [.int .u32 (((rd l0 7) + x20_3) % 4294967296)] from rfl) (Reps.none _ _))))))))))
                          intro v205 w73 ho74 hb hg_ hnew_
                          clear hg_ hnew_
                          (first | rw [← Ny204.out] at ho74 | (simp only [Int.reduceToNat] at ho74; rw [← Ny204.out] at ho74))
                          have n0_ := Aside0.mk (Kd.R_elder' (by (with_reducible repeat (first | apply Kd.R_alloc | apply Kd.R_drewN | apply Kd.R_drew)); exact HO_5.out) (Kd.R_base ho74) hb)
                          have n1_ := Aside0.mk (Kd.R_below (by (with_reducible repeat (first | apply Kd.R_alloc | apply Kd.R_drewN | apply Kd.R_drew)); exact HO_6.out) hb)
                          have n2_ := Aside0.mk (Kd.R_lower (Kd.R_new' ho74 (Kd.R_lt (by (with_reducible repeat (first | apply Kd.R_alloc | apply Kd.R_drewN | apply Kd.R_drew)); exact HO_5.out))) (below_size (by repeat (first | (with_reducible first | exact HB.out | apply below_alloc | apply pw_below_drewN | apply below_drew1) | exact HB.out))))
                          have n3_ := Aside0.mk (below_step (by repeat (first | (with_reducible first | exact HB.out | apply below_alloc | apply pw_below_drewN | apply below_drew1) | exact HB.out)) hb)
                          clear HO_5
                          clear HO_6
                          clear HB
                          have HO_5 := n0_
                          have HO_6 := n1_
                          have HO206 := n2_
                          have HB := n3_
                          clear n0_ n1_ n2_ n3_
                          clear hb ho74
                          refine hK.out _ _ ⟨((HB.out.cell (World.block_lt_of_cell? w _ hw196_0)).trans hw196_0), ((HB.out.cell (World.block_lt_of_cell? w _ hw197_0)).trans hw197_0), ((HB.out.cell (World.block_lt_of_cell? w _ hw198_0)).trans hw198_0), ((HB.out.cell (World.block_lt_of_cell? w _ hw199_0)).trans hw199_0), ((HB.out.cell (World.block_lt_of_cell? w _ hw200_0)).trans hw200_0), ((HB.out.cell (World.block_lt_of_cell? w _ hw201_0)).trans hw201_0), ((HB.out.cell (World.block_lt_of_cell? w _ hw202_0)).trans hw202_0), ((HB.out.cell (World.block_lt_of_cell? w _ hw203_0)).trans hw203_0)⟩ (fun hHeld => ?_)
                          clear hK K
                          refine norm_ (a' := ?_) ?_ ?_
                          rotate_left
                          ·show Act.put _ (some 265) _ = _
                           simp only [Act.put, List.setIfInBounds_toArray, List.set_cons_zero, List.set_cons_succ, i64_w, i32_w]
                           rfl
                          refine pure_ (i := 41) (N := some 4) (v := ?_) (a' := ?_) #[true, true, true, true, true, true, true, true, true, true, true, true, true, true, true, true, true, true, true, true, true, true, true, true, true, true, true, true, true, true, true, true, true, true, true, true, true, true, true, true, true, true] rfl rfl (any_of HT_.out (by kernel_rfl)) (fun _ _ _ h => h) (Or.inl ⟨by rfl, ?_⟩) ?_ ?_
                          rotate_left; (intro w'; go_simp; with_reducible rfl); rotate_left; (simp only [Act.put, List.setIfInBounds_toArray, List.set_cons_zero, List.set_cons_succ, i64_w, i32_w]; rfl)
                          refine done_ (done_of HT_.out (by kernel_rfl)) ?_
                          try go_wp2
                          go_ret
                          exact ⟨_, by first | rfl | (simp [errW_none, errW_some] <;> rfl) | (simp [*, errW_none, errW_some] <;> rfl), by (with_reducible repeat (first | apply Kd.R_alloc | apply Kd.R_drewN | apply Kd.R_drew)); exact Kd.R_mono HO206.out (fun _ hk => trivial), by repeat (first | (with_reducible first | exact HB.out | apply below_alloc | apply pw_below_drewN | apply below_drew1) | exact HB.out)⟩
                         ·rw [if_neg c71] at H
                          exact absurd H (by simp)
                        ·rw [if_neg c70] at H
                         exact absurd H (by simp)
                       ·rw [if_neg c69] at H
                        exact absurd H (by simp)
                      ·rw [if_neg c68] at H
                       exact absurd H (by simp)
                     ·rw [if_neg c67] at H
                      exact absurd H (by simp)
                    ·rw [if_neg c66] at H
                     exact absurd H (by simp)
                   ·rw [if_neg c65] at H
                    exact absurd H (by simp)
                  ·rw [if_neg c64] at H
                   exact absurd H (by simp)
              ·rw [if_neg c56] at H
               exact absurd H (by simp)
             ·rw [if_neg c55] at H
              exact absurd H (by simp)
            ·rw [if_neg c54] at H
             exact absurd H (by simp)
           ·rw [if_neg c53] at H
            exact absurd H (by simp)
          ·rw [if_neg c52] at H
           exact absurd H (by simp)
         ·rw [if_neg c51] at H
          exact absurd H (by simp)
        ·rw [if_neg c50] at H
         exact absurd H (by simp)
       ·rw [if_neg c49] at H
        exact absurd H (by simp)

end Go.Proofs.Ytpiakeejfggocab.Q
