-- Written by a program of this session (wip/prn.py) out of the translation, for the seat Ytpiakeejfggocab. Not trusted: Lean checks it.
import Derived.Test.YtpiakeejfggocabQx0
import Derived.Test.YtpiakeejfggocabQx2
namespace Go.Proofs.Ytpiakeejfggocab.Q
open Go.RowKit Go.Proofs.YtpiakeejfggocabW.PrintWords Go.Proofs.YtpiakeejfggocabW.PrintLast Go.Proofs.YtpiakeejfggocabW.PrintMore
attribute [local go_sem] max2_int min2_int max_two min_two max_three min_three max_four min_four   -- for this text's walks alone
set_option linter.unusedVariables false
set_option linter.unusedSimpArgs false

/-! ### hash_state_block: function 24 -/
mutual
def hash_state_block.l0 : Nat → List Int → List Int → Int → Int → Int → Int → Int → Int → Int → Int → Int → Option (Int × Int × Int × Int × Int × Int × Int × Int)
 | 0, _, _, _, _, _, _, _, _, _, _, _ => none
 | k + 1, x1, x5, x6, x105000, x105001, x105002, x105003, x105004, x105005, x105006, x105007 => if x6 < 16 then (if 0 ≤ (wrap64 (4 * x6)) then (if (wrap64 (4 * x6)) < (x1.length : Int) then (if 0 ≤ (wrap64 ((wrap64 (4 * x6)) + 1)) then (if (wrap64 ((wrap64 (4 * x6)) + 1)) < (x1.length : Int) then (if 0 ≤ (wrap64 ((wrap64 (4 * x6)) + 2)) then (if (wrap64 ((wrap64 (4 * x6)) + 2)) < (x1.length : Int) then (if 0 ≤ (wrap64 ((wrap64 (4 * x6)) + 3)) then (if (wrap64 ((wrap64 (4 * x6)) + 3)) < (x1.length : Int) then (if 0 ≤ x6 then (if x6 < (64 : Int) then (hash_state_block.l0 k x1 (x5.set (x6 : Int).toNat (Go.bits .or .u32 (Go.bits .or .u32 (Go.bits .or .u32 ((((rd x1 (wrap64 (4 * x6))) % 4294967296) * 16777216) % 4294967296) ((((rd x1 (wrap64 ((wrap64 (4 * x6)) + 1))) % 4294967296) * 65536) % 4294967296)) ((((rd x1 (wrap64 ((wrap64 (4 * x6)) + 2))) % 4294967296) * 256) % 4294967296)) ((rd x1 (wrap64 ((wrap64 (4 * x6)) + 3))) % 4294967296))) (wrap64 (x6 + 1)) x105000 x105001 x105002 x105003 x105004 x105005 x105006 x105007) else (none)) else (none)) else (none)) else (none)) else (none)) else (none)) else (none)) else (none)) else (none)) else (none)) else (hash_state_block.l1 k x5 16 x105000 x105001 x105002 x105003 x105004 x105005 x105006 x105007)
def hash_state_block.l1 : Nat → List Int → Int → Int → Int → Int → Int → Int → Int → Int → Int → Option (Int × Int × Int × Int × Int × Int × Int × Int)
 | 0, _, _, _, _, _, _, _, _, _, _ => none
 | k + 1, x5, x7, x105000, x105001, x105002, x105003, x105004, x105005, x105006, x105007 => if x7 < 64 then (if 0 ≤ (wrap64 (x7 - 15)) then (if (wrap64 (x7 - 15)) < (64 : Int) then ((hash_turn.f (rd x5 (wrap64 (x7 - 15))) 7).bind fun t115 => ((hash_turn.f (rd x5 (wrap64 (x7 - 15))) 18).bind fun t117 => (if 0 ≤ (wrap64 (x7 - 2)) then (if (wrap64 (x7 - 2)) < (64 : Int) then ((hash_turn.f (rd x5 (wrap64 (x7 - 2))) 17).bind fun t120 => ((hash_turn.f (rd x5 (wrap64 (x7 - 2))) 19).bind fun t122 => (if 0 ≤ (wrap64 (x7 - 16)) then (if (wrap64 (x7 - 16)) < (64 : Int) then (if 0 ≤ (wrap64 (x7 - 7)) then (if (wrap64 (x7 - 7)) < (64 : Int) then (if 0 ≤ x7 then (if x7 < (64 : Int) then (hash_state_block.l1 k (x5.set (x7 : Int).toNat (((((rd x5 (wrap64 (x7 - 16))) + (Go.bits .xor .u32 (Go.bits .xor .u32 t115 t117) ((rd x5 (wrap64 (x7 - 15))) / 8))) + (rd x5 (wrap64 (x7 - 7)))) + (Go.bits .xor .u32 (Go.bits .xor .u32 t120 t122) ((rd x5 (wrap64 (x7 - 2))) / 1024))) % 4294967296)) (wrap64 (x7 + 1)) x105000 x105001 x105002 x105003 x105004 x105005 x105006 x105007) else (none)) else (none)) else (none)) else (none)) else (none)) else (none)))) else (none)) else (none)))) else (none)) else (none)) else ((Hand.hash_rounds.f).bind fun t127 => (if (t127.length : Int) = 64 then (hash_state_block.l2 k x5 (t127) 0 x105000 x105001 x105002 x105003 x105004 x105005 x105006 x105007 x105000 x105001 x105002 x105003 x105004 x105005 x105006 x105007) else (none)))
def hash_state_block.l2 : Nat → List Int → List Int → Int → Int → Int → Int → Int → Int → Int → Int → Int → Int → Int → Int → Int → Int → Int → Int → Int → Option (Int × Int × Int × Int × Int × Int × Int × Int)
 | 0, _, _, _, _, _, _, _, _, _, _, _, _, _, _, _, _, _, _, _ => none
 | k + 1, x5, x10, x12, x105000, x105001, x105002, x105003, x105004, x105005, x105006, x105007, x132000, x132001, x132002, x132003, x132004, x132005, x132006, x132007 => if x12 < 64 then ((hash_turn.f x132004 6).bind fun t132 => ((hash_turn.f x132004 11).bind fun t133 => ((hash_turn.f x132004 25).bind fun t134 => (if 0 ≤ x12 then (if x12 < (64 : Int) then ((hash_turn.f x132000 2).bind fun t137 => ((hash_turn.f x132000 13).bind fun t138 => ((hash_turn.f x132000 22).bind fun t139 => (hash_state_block.l2 k x5 x10 (wrap64 (x12 + 1)) x105000 x105001 x105002 x105003 x105004 x105005 x105006 x105007 (((((((x132007 + (Go.bits .xor .u32 (Go.bits .xor .u32 t132 t133) t134)) + (Go.bits .xor .u32 (Go.bits .and .u32 x132004 x132005) (Go.bits .and .u32 (Go.bits .xor .u32 4294967295 x132004) x132006))) + (rd x10 x12)) + (rd x5 x12)) + (Go.bits .xor .u32 (Go.bits .xor .u32 t137 t138) t139)) + (Go.bits .xor .u32 (Go.bits .xor .u32 (Go.bits .and .u32 x132000 x132001) (Go.bits .and .u32 x132000 x132002)) (Go.bits .and .u32 x132001 x132002))) % 4294967296) x132000 x132001 x132002 ((x132003 + ((((x132007 + (Go.bits .xor .u32 (Go.bits .xor .u32 t132 t133) t134)) + (Go.bits .xor .u32 (Go.bits .and .u32 x132004 x132005) (Go.bits .and .u32 (Go.bits .xor .u32 4294967295 x132004) x132006))) + (rd x10 x12)) + (rd x5 x12))) % 4294967296) x132004 x132005 x132006)))) else (none)) else (none))))) else (hash_state_block.l3 k 0 x105000 x105001 x105002 x105003 x105004 x105005 x105006 x105007 x132000 x132001 x132002 x132003 x132004 x132005 x132006 x132007)
def hash_state_block.l3 : Nat → Int → Int → Int → Int → Int → Int → Int → Int → Int → Int → Int → Int → Int → Int → Int → Int → Int → Option (Int × Int × Int × Int × Int × Int × Int × Int)
 | 0, _, _, _, _, _, _, _, _, _, _, _, _, _, _, _, _, _ => none
 | k + 1, x204, x105000, x105001, x105002, x105003, x105004, x105005, x105006, x105007, x132000, x132001, x132002, x132003, x132004, x132005, x132006, x132007 => if x204 < 8 then (if x204 = 0 then (hash_state_block.l3 k (wrap64 (x204 + 1)) x105000 x105001 x105002 x105003 x105004 x105005 x105006 x105007 ((x132000 + x105000) % 4294967296) x132001 x132002 x132003 x132004 x132005 x132006 x132007) else (if x204 = 1 then (hash_state_block.l3 k (wrap64 (x204 + 1)) x105000 x105001 x105002 x105003 x105004 x105005 x105006 x105007 x132000 ((x132001 + x105001) % 4294967296) x132002 x132003 x132004 x132005 x132006 x132007) else (if x204 = 2 then (hash_state_block.l3 k (wrap64 (x204 + 1)) x105000 x105001 x105002 x105003 x105004 x105005 x105006 x105007 x132000 x132001 ((x132002 + x105002) % 4294967296) x132003 x132004 x132005 x132006 x132007) else (if x204 = 3 then (hash_state_block.l3 k (wrap64 (x204 + 1)) x105000 x105001 x105002 x105003 x105004 x105005 x105006 x105007 x132000 x132001 x132002 ((x132003 + x105003) % 4294967296) x132004 x132005 x132006 x132007) else (if x204 = 4 then (hash_state_block.l3 k (wrap64 (x204 + 1)) x105000 x105001 x105002 x105003 x105004 x105005 x105006 x105007 x132000 x132001 x132002 x132003 ((x132004 + x105004) % 4294967296) x132005 x132006 x132007) else (if x204 = 5 then (hash_state_block.l3 k (wrap64 (x204 + 1)) x105000 x105001 x105002 x105003 x105004 x105005 x105006 x105007 x132000 x132001 x132002 x132003 x132004 ((x132005 + x105005) % 4294967296) x132006 x132007) else (if x204 = 6 then (hash_state_block.l3 k (wrap64 (x204 + 1)) x105000 x105001 x105002 x105003 x105004 x105005 x105006 x105007 x132000 x132001 x132002 x132003 x132004 x132005 ((x132006 + x105006) % 4294967296) x132007) else (if x204 = 7 then (hash_state_block.l3 k (wrap64 (x204 + 1)) x105000 x105001 x105002 x105003 x105004 x105005 x105006 x105007 x132000 x132001 x132002 x132003 x132004 x132005 x132006 ((x132007 + x105007) % 4294967296)) else (none))))))))) else (some (x132000, x132001, x132002, x132003, x132004, x132005, x132006, x132007))
end
def hash_state_block.f (k : Nat) (a0_0 : Int) (a0_1 : Int) (a0_2 : Int) (a0_3 : Int) (a0_4 : Int) (a0_5 : Int) (a0_6 : Int) (a0_7 : Int) (l1 : List Int) : Option (Int × Int × Int × Int × Int × Int × Int × Int) := hash_state_block.l0 k l1 (List.replicate 64 0) 0 a0_0 a0_1 a0_2 a0_3 a0_4 a0_5 a0_6 a0_7
theorem hash_state_block.mono_l : ∀ k, (∀ y0 y1 y2 y3 y4 y5 y6 y7 y8 y9 y10, LeO (hash_state_block.l0 k y0 y1 y2 y3 y4 y5 y6 y7 y8 y9 y10) (hash_state_block.l0 (k + 1) y0 y1 y2 y3 y4 y5 y6 y7 y8 y9 y10)) ∧ (∀ y0 y1 y2 y3 y4 y5 y6 y7 y8 y9, LeO (hash_state_block.l1 k y0 y1 y2 y3 y4 y5 y6 y7 y8 y9) (hash_state_block.l1 (k + 1) y0 y1 y2 y3 y4 y5 y6 y7 y8 y9)) ∧ (∀ y0 y1 y2 y3 y4 y5 y6 y7 y8 y9 y10 y11 y12 y13 y14 y15 y16 y17 y18, LeO (hash_state_block.l2 k y0 y1 y2 y3 y4 y5 y6 y7 y8 y9 y10 y11 y12 y13 y14 y15 y16 y17 y18) (hash_state_block.l2 (k + 1) y0 y1 y2 y3 y4 y5 y6 y7 y8 y9 y10 y11 y12 y13 y14 y15 y16 y17 y18)) ∧ (∀ y0 y1 y2 y3 y4 y5 y6 y7 y8 y9 y10 y11 y12 y13 y14 y15 y16, LeO (hash_state_block.l3 k y0 y1 y2 y3 y4 y5 y6 y7 y8 y9 y10 y11 y12 y13 y14 y15 y16) (hash_state_block.l3 (k + 1) y0 y1 y2 y3 y4 y5 y6 y7 y8 y9 y10 y11 y12 y13 y14 y15 y16))
 | 0 => ⟨fun _ _ _ _ _ _ _ _ _ _ _ r h => by simp [hash_state_block.l0] at h, fun _ _ _ _ _ _ _ _ _ _ r h => by simp [hash_state_block.l1] at h, fun _ _ _ _ _ _ _ _ _ _ _ _ _ _ _ _ _ _ _ r h => by simp [hash_state_block.l2] at h, fun _ _ _ _ _ _ _ _ _ _ _ _ _ _ _ _ _ r h => by simp [hash_state_block.l3] at h⟩
 | k + 1 => by
  obtain ⟨ih0, ih1, ih2, ih3⟩ := hash_state_block.mono_l k
  refine ⟨?_, ?_, ?_, ?_⟩
  ·intro y0 y1 y2 y3 y4 y5 y6 y7 y8 y9 y10
   unfold hash_state_block.l0
   repeat' first
   | (with_reducible exact ih0 _ _ _ _ _ _ _ _ _ _ _)
   | (with_reducible exact ih1 _ _ _ _ _ _ _ _ _ _)
   | (with_reducible exact ih2 _ _ _ _ _ _ _ _ _ _ _ _ _ _ _ _ _ _ _)
   | (with_reducible exact ih3 _ _ _ _ _ _ _ _ _ _ _ _ _ _ _ _ _)
   | (with_reducible exact LeO.refl _)
   | (with_reducible exact LeO.none _)
   | (with_reducible refine LeO.ite ?_ ?_)
   | (with_reducible refine LeO.bind ?_ (fun _ => ?_))
   | exact ih0 _ _ _ _ _ _ _ _ _ _ _
   | exact ih1 _ _ _ _ _ _ _ _ _ _
   | exact ih2 _ _ _ _ _ _ _ _ _ _ _ _ _ _ _ _ _ _ _
   | exact ih3 _ _ _ _ _ _ _ _ _ _ _ _ _ _ _ _ _
   | exact LeO.none _
   | refine LeO.ite ?_ ?_
   | refine LeO.bind ?_ (fun _ => ?_)
  ·intro y0 y1 y2 y3 y4 y5 y6 y7 y8 y9
   unfold hash_state_block.l1
   repeat' first
   | (with_reducible exact ih0 _ _ _ _ _ _ _ _ _ _ _)
   | (with_reducible exact ih1 _ _ _ _ _ _ _ _ _ _)
   | (with_reducible exact ih2 _ _ _ _ _ _ _ _ _ _ _ _ _ _ _ _ _ _ _)
   | (with_reducible exact ih3 _ _ _ _ _ _ _ _ _ _ _ _ _ _ _ _ _)
   | (with_reducible exact LeO.refl _)
   | (with_reducible exact LeO.none _)
   | (with_reducible refine LeO.ite ?_ ?_)
   | (with_reducible refine LeO.bind ?_ (fun _ => ?_))
   | exact ih0 _ _ _ _ _ _ _ _ _ _ _
   | exact ih1 _ _ _ _ _ _ _ _ _ _
   | exact ih2 _ _ _ _ _ _ _ _ _ _ _ _ _ _ _ _ _ _ _
   | exact ih3 _ _ _ _ _ _ _ _ _ _ _ _ _ _ _ _ _
   | exact LeO.none _
   | refine LeO.ite ?_ ?_
   | refine LeO.bind ?_ (fun _ => ?_)
  ·intro y0 y1 y2 y3 y4 y5 y6 y7 y8 y9 y10 y11 y12 y13 y14 y15 y16 y17 y18
   unfold hash_state_block.l2
   repeat' first
   | (with_reducible exact ih0 _ _ _ _ _ _ _ _ _ _ _)
   | (with_reducible exact ih1 _ _ _ _ _ _ _ _ _ _)
   | (with_reducible exact ih2 _ _ _ _ _ _ _ _ _ _ _ _ _ _ _ _ _ _ _)
   | (with_reducible exact ih3 _ _ _ _ _ _ _ _ _ _ _ _ _ _ _ _ _)
   | (with_reducible exact LeO.refl _)
   | (with_reducible exact LeO.none _)
   | (with_reducible refine LeO.ite ?_ ?_)
   | (with_reducible refine LeO.bind ?_ (fun _ => ?_))
   | exact ih0 _ _ _ _ _ _ _ _ _ _ _
   | exact ih1 _ _ _ _ _ _ _ _ _ _
   | exact ih2 _ _ _ _ _ _ _ _ _ _ _ _ _ _ _ _ _ _ _
   | exact ih3 _ _ _ _ _ _ _ _ _ _ _ _ _ _ _ _ _
   | exact LeO.none _
   | refine LeO.ite ?_ ?_
   | refine LeO.bind ?_ (fun _ => ?_)
  ·intro y0 y1 y2 y3 y4 y5 y6 y7 y8 y9 y10 y11 y12 y13 y14 y15 y16
   unfold hash_state_block.l3
   repeat' first
   | (with_reducible exact ih0 _ _ _ _ _ _ _ _ _ _ _)
   | (with_reducible exact ih1 _ _ _ _ _ _ _ _ _ _)
   | (with_reducible exact ih2 _ _ _ _ _ _ _ _ _ _ _ _ _ _ _ _ _ _ _)
   | (with_reducible exact ih3 _ _ _ _ _ _ _ _ _ _ _ _ _ _ _ _ _)
   | (with_reducible exact LeO.refl _)
   | (with_reducible exact LeO.none _)
   | (with_reducible refine LeO.ite ?_ ?_)
   | (with_reducible refine LeO.bind ?_ (fun _ => ?_))
   | exact ih0 _ _ _ _ _ _ _ _ _ _ _
   | exact ih1 _ _ _ _ _ _ _ _ _ _
   | exact ih2 _ _ _ _ _ _ _ _ _ _ _ _ _ _ _ _ _ _ _
   | exact ih3 _ _ _ _ _ _ _ _ _ _ _ _ _ _ _ _ _
   | exact LeO.none _
   | refine LeO.ite ?_ ?_
   | refine LeO.bind ?_ (fun _ => ?_)
theorem hash_state_block.mono : ∀ a0 a1 a2 a3 a4 a5 a6 a7 a8 k, LeO (hash_state_block.f k a0 a1 a2 a3 a4 a5 a6 a7 a8) (hash_state_block.f (k + 1) a0 a1 a2 a3 a4 a5 a6 a7 a8) := by
 intro a0 a1 a2 a3 a4 a5 a6 a7 a8 k
 obtain ⟨ih0, ih1, ih2, ih3⟩ := hash_state_block.mono_l k
 unfold hash_state_block.f
 repeat' first
   | (with_reducible exact ih0 _ _ _ _ _ _ _ _ _ _ _)
   | (with_reducible exact ih1 _ _ _ _ _ _ _ _ _ _)
   | (with_reducible exact ih2 _ _ _ _ _ _ _ _ _ _ _ _ _ _ _ _ _ _ _)
   | (with_reducible exact ih3 _ _ _ _ _ _ _ _ _ _ _ _ _ _ _ _ _)
   | (with_reducible exact LeO.refl _)
   | (with_reducible exact LeO.none _)
   | (with_reducible refine LeO.ite ?_ ?_)
   | (with_reducible refine LeO.bind ?_ (fun _ => ?_))
   | exact ih0 _ _ _ _ _ _ _ _ _ _ _
   | exact ih1 _ _ _ _ _ _ _ _ _ _
   | exact ih2 _ _ _ _ _ _ _ _ _ _ _ _ _ _ _ _ _ _ _
   | exact ih3 _ _ _ _ _ _ _ _ _ _ _ _ _ _ _ _ _
   | exact LeO.none _
   | refine LeO.ite ?_ ?_
   | refine LeO.bind ?_ (fun _ => ?_)
def hash_state_block.T5 : Bool × List (List Nat × List Nat) := (true, [([], []), ([], []), ([], []), ([2], [2]), ([1, 3], [1, 3]), ([4], [4]), ([5], [5]), ([6], [6]), ([], []), ([], []), ([9], [9]), ([10], [10]), ([8, 11], [8, 11]), ([12], [12]), ([13], [13]), ([14], [14]), ([7, 15], [7, 15]), ([], []), ([], []), ([18], [18]), ([19], [19]), ([17, 20], [17, 20]), ([21], [21]), ([22], [22]), ([23], [23]), ([16, 24], [16, 24]), ([], []), ([], []), ([27], [27]), ([28], [28]), ([26, 29], [26, 29]), ([30], [30]), ([31], [31]), ([25, 32], [25, 32]), ([0, 0, 1, 2, 3, 4, 5, 6, 7, 8, 9, 10, 11, 12, 13, 14, 15, 16, 17, 18, 19, 20, 21, 22, 23, 24, 25, 26, 27, 28, 29, 30, 31, 32, 33], [0]), ([34, 33, 0, 1, 2, 3, 4, 5, 6, 7, 8, 9, 10, 11, 12, 13, 14, 15, 16, 17, 18, 19, 20, 21, 22, 23, 24, 25, 26, 27, 28, 29, 30, 31, 32, 33], [33, 34])])
def hash_state_block.B5 : List Nat := [0, 0, 0, 4, 14, 30, 62, 126, 0, 0, 512, 1536, 3840, 7936, 16128, 32512, 65534, 0, 0, 262144, 786432, 1966080, 4063232, 8257536, 16646144, 33554430, 0, 0, 134217728, 402653184, 1006632960, 2080374784, 4227858432, 8589934590, 17179869183, 34359738367]
theorem hash_state_block.tab5 : rtab .any (opsOf Try.f24 5) = hash_state_block.T5 := by kernel_rfl
theorem hash_state_block.bits5 : waitsOk hash_state_block.T5.2 hash_state_block.B5 = true := by kernel_rfl
def hash_state_block.T9 : Bool × List (List Nat × List Nat) := (true, [([], []), ([0], [0]), ([1], [1]), ([2], [2]), ([3], [3]), ([], []), ([5], [5]), ([6], [6]), ([7], [7]), ([8, 4], [8]), ([4, 9], [4, 9]), ([], []), ([11], [11]), ([12], [12]), ([13], [13]), ([14], [14]), ([10, 15], [10, 15]), ([16, 9, 0, 1, 2, 3, 4, 5, 6, 7, 8, 9, 10, 11, 12, 13, 14, 15, 16], [16])])
def hash_state_block.B9 : List Nat := [0, 1, 3, 7, 15, 0, 32, 96, 224, 511, 1023, 0, 2048, 6144, 14336, 30720, 65535, 131071]
theorem hash_state_block.tab9 : rtab .any (opsOf Try.f24 9) = hash_state_block.T9 := by kernel_rfl
theorem hash_state_block.bits9 : waitsOk hash_state_block.T9.2 hash_state_block.B9 = true := by kernel_rfl
def hash_state_block.T10 : Bool × List (List Nat × List Nat) := (true, [([], []), ([0], [0]), ([1], [1]), ([2], [2]), ([3], [3]), ([], []), ([5], [5]), ([6], [6]), ([7], [7]), ([8, 4], [8]), ([4, 9], [4, 9]), ([], []), ([11], [11]), ([12], [12]), ([13], [13]), ([14], [14]), ([10, 15], [10, 15]), ([16, 9, 0, 1, 2, 3, 4, 5, 6, 7, 8, 9, 10, 11, 12, 13, 14, 15, 16], [16])])
def hash_state_block.B10 : List Nat := [0, 1, 3, 7, 15, 0, 32, 96, 224, 511, 1023, 0, 2048, 6144, 14336, 30720, 65535, 131071]
theorem hash_state_block.tab10 : rtab .any (opsOf Try.f24 10) = hash_state_block.T10 := by kernel_rfl
theorem hash_state_block.bits10 : waitsOk hash_state_block.T10.2 hash_state_block.B10 = true := by kernel_rfl
def hash_state_block.T11 : Bool × List (List Nat × List Nat) := (true, [([], []), ([], []), ([1], [1]), ([2], [2]), ([3], [3]), ([], []), ([4, 5], [4, 5]), ([], []), ([7], [7]), ([8], [8]), ([9], [9]), ([6, 10], [6, 10]), ([], []), ([11, 12], [11, 12]), ([0, 0, 1, 2, 3, 4, 5, 6, 7, 8, 9, 10, 11, 12, 13], [0]), ([14, 13, 0, 1, 2, 3, 4, 5, 6, 7, 8, 9, 10, 11, 12, 13], [13, 14])])
def hash_state_block.B11 : List Nat := [0, 0, 2, 6, 14, 0, 62, 0, 128, 384, 896, 2046, 0, 8190, 16383, 32767]
theorem hash_state_block.tab11 : rtab .any (opsOf Try.f24 11) = hash_state_block.T11 := by kernel_rfl
theorem hash_state_block.bits11 : waitsOk hash_state_block.T11.2 hash_state_block.B11 = true := by kernel_rfl
def hash_state_block.T17 : Bool × List (List Nat × List Nat) := (true, [([], []), ([0], [0]), ([1], [1]), ([], []), ([3], [3]), ([4, 2], [4]), ([2, 5], [2, 5]), ([], []), ([7], [7]), ([8, 5], [8]), ([6, 9], [6, 9]), ([10, 9, 0, 1, 2, 3, 4, 5, 6, 7, 8, 9, 10], [10])])
def hash_state_block.B17 : List Nat := [0, 1, 3, 0, 8, 31, 63, 0, 128, 447, 1023, 2047]
theorem hash_state_block.tab17 : rtab .any (opsOf Try.f24 17) = hash_state_block.T17 := by kernel_rfl
theorem hash_state_block.bits17 : waitsOk hash_state_block.T17.2 hash_state_block.B17 = true := by kernel_rfl
def hash_state_block.T19 : Bool × List (List Nat × List Nat) := (true, [([], []), ([0], [0]), ([], []), ([1, 2], [1, 2]), ([], []), ([3, 4], [3, 4]), ([], []), ([6], [6]), ([7], [7]), ([5, 8], [5, 8]), ([], []), ([10], [10]), ([11], [11]), ([9, 12], [9, 12]), ([13, 0, 1, 2, 3, 4, 5, 6, 7, 8, 9, 10, 11, 12, 13], [13])])
def hash_state_block.B19 : List Nat := [0, 1, 0, 7, 0, 31, 0, 64, 192, 511, 0, 1024, 3072, 8191, 16383]
theorem hash_state_block.tab19 : rtab .any (opsOf Try.f24 19) = hash_state_block.T19 := by kernel_rfl
theorem hash_state_block.bits19 : waitsOk hash_state_block.T19.2 hash_state_block.B19 = true := by kernel_rfl
def hash_state_block.T20 : Bool × List (List Nat × List Nat) := (true, [([], []), ([0], [0]), ([1], [1]), ([], []), ([3], [3]), ([4, 2], [4]), ([2, 5], [2, 5]), ([], []), ([7], [7]), ([8, 5], [8]), ([6, 9], [6, 9]), ([10, 9, 0, 1, 2, 3, 4, 5, 6, 7, 8, 9, 10], [10])])
def hash_state_block.B20 : List Nat := [0, 1, 3, 0, 8, 31, 63, 0, 128, 447, 1023, 2047]
theorem hash_state_block.tab20 : rtab .any (opsOf Try.f24 20) = hash_state_block.T20 := by kernel_rfl
theorem hash_state_block.bits20 : waitsOk hash_state_block.T20.2 hash_state_block.B20 = true := by kernel_rfl
def hash_state_block.T26 : Bool × List (List Nat × List Nat) := (true, [([], []), ([0], [0]), ([1], [1]), ([], []), ([3], [3]), ([4], [4]), ([2, 5], [2, 5]), ([0, 0, 1, 2, 3, 4, 5, 6], [0]), ([7, 6, 0, 1, 2, 3, 4, 5, 6], [6, 7])])
def hash_state_block.B26 : List Nat := [0, 1, 3, 0, 8, 24, 63, 127, 255]
theorem hash_state_block.tab26 : rtab .any (opsOf Try.f24 26) = hash_state_block.T26 := by kernel_rfl
theorem hash_state_block.bits26 : waitsOk hash_state_block.T26.2 hash_state_block.B26 = true := by kernel_rfl
set_option maxHeartbeats 8000000 in
set_option maxRecDepth 100000 in
theorem hash_state_block.calls (k : Nat) (a0_0 : Int) (a0_1 : Int) (a0_2 : Int) (a0_3 : Int) (a0_4 : Int) (a0_5 : Int) (a0_6 : Int) (a0_7 : Int) (A1 : Option Addr) (c1 : Nat) (l1 : List Int) (r1 : Int) (r2 : Int) (r3 : Int) (r4 : Int) (r5 : Int) (r6 : Int) (r7 : Int) (r8 : Int) (w : World) (hr1 : Kd.C (Kd.int .u8) w A1 l1.length l1) (hc1 : l1.length ≤ c1) (h : hash_state_block.f k a0_0 a0_1 a0_2 a0_3 a0_4 a0_5 a0_6 a0_7 l1 = some (r1, r2, r3, r4, r5, r6, r7, r8)) :
  Calls Try.prog 24 #[.agg #[.int .u32 a0_0, .int .u32 a0_1, .int .u32 a0_2, .int .u32 a0_3, .int .u32 a0_4, .int .u32 a0_5, .int .u32 a0_6, .int .u32 a0_7], .slice A1 l1.length c1] w fun e w' => e = .returned (.agg #[.int .u32 r1, .int .u32 r2, .int .u32 r3, .int .u32 r4, .int .u32 r5, .int .u32 r6, .int .u32 r7, .int .u32 r8]) ∧ Below w.heap.size w w' := by
 have hu37 := Try.underlying37
 have HR1 := Aside0.mk hr1
 have HC1 := Aside0.mk hc1
 clear hr1 hc1
 have HB := Aside0.mk (Below.refl w.heap.size w)
 have H : (hash_state_block.l0 k l1 (List.replicate 64 0) 0 a0_0 a0_1 a0_2 a0_3 a0_4 a0_5 a0_6 a0_7) = some (r1, r2, r3, r4, r5, r6, r7, r8) := h
 clear h
 obtain ⟨y106, hy106⟩ : ∃ y_ : List Int, y_ = (List.replicate 64 0) := ⟨_, rfl⟩
 replace H : (hash_state_block.l0 k l1 y106 0 a0_0 a0_1 a0_2 a0_3 a0_4 a0_5 a0_6 a0_7) = some (r1, r2, r3, r4, r5, r6, r7, r8) := by first | (rw [hy106]; with_reducible exact H) | (have H2_ := (Option.bind_some _ _).symm.trans H; rw [hy106]; with_reducible exact H2_) | (have H2_ := (Option.bind_some _ _).symm.trans H; with_reducible exact H2_) | with_reducible exact H | (rw [hy106]; exact H) | exact H
 have Ny106 := Aside0.mk hy106
 clear hy106
 have H' := Aside0.mk H
 clear H
 go_enter Try.func24, Try.ntmps24
 go_wp2_with (first | ((with_reducible refine gate_dst (N := 2) rfl ?_); refine box_event ?hg (N := 2) ?hd (cs := #[.int .u32 a0_0, .int .u32 a0_1, .int .u32 a0_2, .int .u32 a0_3, .int .u32 a0_4, .int .u32 a0_5, .int .u32 a0_6, .int .u32 a0_7]) (t := 37) ?hr ?_; (case hd => rfl); (case hg => rfl); (case hr => first | (go_simp; done) | (go_simp; rfl)); intro gb104 hg w3 hbox hb; have n0_ := Aside0.mk (below_step (by repeat (first | (with_reducible first | exact HB.out | apply below_alloc | apply pw_below_drewN | apply below_drew1) | exact HB.out)) hb); have n1_ := Aside0.mk (hbox); have n2_ := Aside0.mk ((by rw [hg]; exact (below_size (by repeat (first | (with_reducible first | exact HB.out | apply below_alloc | apply pw_below_drewN | apply below_drew1) | exact HB.out))) : w.heap.size ≤ gb104)); have n3_ := Aside0.mk ((by rw [hg]; exact (below_size (by repeat (first | (with_reducible first | exact HB.out | apply below_alloc | apply pw_below_drewN | apply below_drew1) | exact HB.out))) : w.heap.size ≤ gb104)); clear HB; have HB := n0_; have BK104 := n1_; have GW104 := n2_; have GE104 := n3_; clear n0_ n1_ n2_ n3_; clear hb hbox hg) | ((with_reducible refine gate_dst (N := 4) rfl ?_); refine box_event ?hg (N := 4) ?hd (cs := #[.int .u32 0, .int .u32 0, .int .u32 0, .int .u32 0, .int .u32 0, .int .u32 0, .int .u32 0, .int .u32 0]) (t := 37) ?hr ?_; (case hd => rfl); (case hg => rfl); (case hr => first | (go_simp; done) | (go_simp; rfl)); intro gb105 hg w4 hbox hb; have n0_ := Aside0.mk (blk_below (g := gb104) (o := .cells #[.int .u32 a0_0, .int .u32 a0_1, .int .u32 a0_2, .int .u32 a0_3, .int .u32 a0_4, .int .u32 a0_5, .int .u32 a0_6, .int .u32 a0_7] 37 (0, 0)) (by (with_reducible repeat (first | refine blk_drewN ?_ _ | refine blk_drew ?_ | refine blk_alloc ?_ _)); exact BK104.out) hb); have n1_ := Aside0.mk (below_step (by repeat (first | (with_reducible first | exact HB.out | apply below_alloc | apply pw_below_drewN | apply below_drew1 | refine below_set ?_ GE104.out) | exact HB.out)) hb); have n2_ := Aside0.mk (hbox); have n3_ := Aside0.mk ((by rw [hg]; exact (below_size (by repeat (first | (with_reducible first | exact HB.out | apply below_alloc | apply pw_below_drewN | apply below_drew1 | refine below_set ?_ GE104.out) | exact HB.out))) : w.heap.size ≤ gb105)); have n4_ := Aside0.mk ((by rw [hg]; exact (below_size (by repeat (first | (with_reducible first | exact HB.out | apply below_alloc | apply pw_below_drewN | apply below_drew1 | refine below_set ?_ GE104.out) | exact HB.out))) : w.heap.size ≤ gb105)); have n5_ := Aside0.mk ((by rw [hg]; exact Nat.ne_of_lt (blk_lt (g := gb104) (o := .cells #[.int .u32 a0_0, .int .u32 a0_1, .int .u32 a0_2, .int .u32 a0_3, .int .u32 a0_4, .int .u32 a0_5, .int .u32 a0_6, .int .u32 a0_7] 37 (0, 0)) (by (with_reducible repeat (first | refine blk_drewN ?_ _ | refine blk_drew ?_ | refine blk_alloc ?_ _)); exact BK104.out)) : gb104 ≠ gb105)); have n6_ := Aside0.mk ((by rw [hg]; exact Nat.ne_of_gt (blk_lt (g := gb104) (o := .cells #[.int .u32 a0_0, .int .u32 a0_1, .int .u32 a0_2, .int .u32 a0_3, .int .u32 a0_4, .int .u32 a0_5, .int .u32 a0_6, .int .u32 a0_7] 37 (0, 0)) (by (with_reducible repeat (first | refine blk_drewN ?_ _ | refine blk_drew ?_ | refine blk_alloc ?_ _)); exact BK104.out)) : gb105 ≠ gb104)); clear BK104; clear HB; have BK104 := n0_; have HB := n1_; have BK105 := n2_; have GW105 := n3_; have GE105 := n4_; have NB104_105 := n5_; have NB105_104 := n6_; clear n0_ n1_ n2_ n3_ n4_ n5_ n6_; clear hb hbox hg) | ((with_reducible refine gate_dst (N := 5) rfl ?_); refine Ext.R_alloc (Kd.int .u32) _ 52 ?hg (N := 5) ?hd (xs := (List.replicate 64 0)) (inner := List.replicate 64 (.int .u32 0)) (ok := fun _ => True) (okp := fun _ => True) ?hr (Ext.reps_zeros .u32 64 _ _ _) (fun _ hk => hk) trivial (Below.refl _ _) (Nat.le_refl _) (by simp) ?_; (case hd => rfl); (case hg => rfl); (case hr => first | (go_simp; done) | (go_simp; rfl)); intro go7 w5 ho6 hb hg_ hnew_; clear hg_; (simp only [List.length_replicate] at ho6); rw [← Ny106.out] at ho6; have GB7 := Aside0.mk (show w.heap.size ≤ go7 from Nat.le_trans (below_size (by repeat (first | (with_reducible first | exact HB.out | apply below_alloc | apply pw_below_drewN | apply below_drew1 | refine below_set ?_ GE104.out | refine below_set ?_ GE105.out) | exact HB.out))) hnew_); have n0_ := Aside0.mk (Kd.R_lower ho6 (below_size (by repeat (first | (with_reducible first | exact HB.out | apply below_alloc | apply pw_below_drewN | apply below_drew1 | refine below_set ?_ GE104.out | refine below_set ?_ GE105.out) | exact HB.out)))); have n1_ := Aside0.mk (blk_below (g := gb104) (o := .cells #[.int .u32 a0_0, .int .u32 a0_1, .int .u32 a0_2, .int .u32 a0_3, .int .u32 a0_4, .int .u32 a0_5, .int .u32 a0_6, .int .u32 a0_7] 37 (0, 0)) (by (with_reducible repeat (first | refine blk_drewN ?_ _ | refine blk_drew ?_ | refine blk_alloc ?_ _)); exact BK104.out) hb); have n2_ := Aside0.mk (blk_below (g := gb105) (o := .cells #[.int .u32 0, .int .u32 0, .int .u32 0, .int .u32 0, .int .u32 0, .int .u32 0, .int .u32 0, .int .u32 0] 37 (0, 0)) (by (with_reducible repeat (first | refine blk_drewN ?_ _ | refine blk_drew ?_ | refine blk_alloc ?_ _)); exact BK105.out) hb); have n3_ := Aside0.mk (below_step (by repeat (first | (with_reducible first | exact HB.out | apply below_alloc | apply pw_below_drewN | apply below_drew1 | refine below_set ?_ GE104.out | refine below_set ?_ GE105.out) | exact HB.out)) hb); clear BK104; clear BK105; clear HB; have HO108 := n0_; have BK104 := n1_; have BK105 := n2_; have HB := n3_; clear n0_ n1_ n2_ n3_; clear hb hnew_ ho6))
 go_loopg [6] k (fun kq v6 w' => ∃ (x5_1 : List Int) (x6_1 : Int), v6 = .int .i64 x6_1 ∧ Aside0 (hash_state_block.l0 kq l1 x5_1 x6_1 a0_0 a0_1 a0_2 a0_3 a0_4 a0_5 a0_6 a0_7 = some (r1, r2, r3, r4, r5, r6, r7, r8)) ∧ Aside0 (kq ≤ k) ∧ Aside0 (Kd.R (Kd.int .u32) 52 w' w.heap.size (fun _ => True) (.slice (some ⟨go7, 0, none⟩) 64 64) x5_1) ∧ Aside0 (w'.heap[gb104]? = some (.cells #[.int .u32 a0_0, .int .u32 a0_1, .int .u32 a0_2, .int .u32 a0_3, .int .u32 a0_4, .int .u32 a0_5, .int .u32 a0_6, .int .u32 a0_7] 37 (0, 0))) ∧ Aside0 (w'.heap[gb105]? = some (.cells #[.int .u32 0, .int .u32 0, .int .u32 0, .int .u32 0, .int .u32 0, .int .u32 0, .int .u32 0, .int .u32 0] 37 (0, 0))) ∧ Aside0 (Below w.heap.size w w'))
 case atStart => exact ⟨(y106), (0), (by first | rfl | (simp; done) | (simp [*]; done)), H', ⟨Nat.le_refl _⟩, ⟨by (with_reducible repeat (first | apply Kd.R_alloc | apply Kd.R_drewN | apply Kd.R_drew)); exact HO108.out⟩, ⟨by (with_reducible repeat (first | refine blk_drewN ?_ _ | refine blk_drew ?_ | refine blk_alloc ?_ _)); exact BK104.out⟩, ⟨by (with_reducible repeat (first | refine blk_drewN ?_ _ | refine blk_drew ?_ | refine blk_alloc ?_ _)); exact BK105.out⟩, ⟨by repeat (first | (with_reducible first | exact HB.out | apply below_alloc | apply pw_below_drewN | apply below_drew1 | refine below_set ?_ GE104.out | refine below_set ?_ GE105.out) | exact HB.out)⟩⟩
 case round =>
  clear H'
  try clear c1
  try clear c2
  try clear p2
  obtain ⟨x5_1, x6_1, rfl, HA, HK1, HO_5, BK104, BK105, HB⟩ := hrel
  cases gk with
  | zero => exact absurd HA.out (by simp [hash_state_block.l0])
  | succ k1 =>
   have H := HA.out
   clear HA
   simp only [hash_state_block.l0] at H
   by_cases c8 : x6_1 < 16
   ·rw [if_pos c8] at H
    have c8b0 : decide (x6_1 < 16) = true := decide_eq_true c8
    clear c8
    obtain ⟨ji9, hji9⟩ : ∃ j_ : Int, (wrap64 (4 * x6_1)) = j_ := ⟨_, rfl⟩
    replace H : (if 0 ≤ (ji9) then (if (ji9) < (l1.length : Int) then (if 0 ≤ (wrap64 ((ji9) + 1)) then (if (wrap64 ((ji9) + 1)) < (l1.length : Int) then (if 0 ≤ (wrap64 ((ji9) + 2)) then (if (wrap64 ((ji9) + 2)) < (l1.length : Int) then (if 0 ≤ (wrap64 ((ji9) + 3)) then (if (wrap64 ((ji9) + 3)) < (l1.length : Int) then (if 0 ≤ x6_1 then (if x6_1 < (64 : Int) then (hash_state_block.l0 k1 l1 (x5_1.set (x6_1 : Int).toNat (Go.bits .or .u32 (Go.bits .or .u32 (Go.bits .or .u32 ((((rd l1 (ji9)) % 4294967296) * 16777216) % 4294967296) ((((rd l1 (wrap64 ((ji9) + 1))) % 4294967296) * 65536) % 4294967296)) ((((rd l1 (wrap64 ((ji9) + 2))) % 4294967296) * 256) % 4294967296)) ((rd l1 (wrap64 ((ji9) + 3))) % 4294967296))) (wrap64 (x6_1 + 1)) a0_0 a0_1 a0_2 a0_3 a0_4 a0_5 a0_6 a0_7) else (none)) else (none)) else (none)) else (none)) else (none)) else (none)) else (none)) else (none)) else (none)) else (none)) = some (r1, r2, r3, r4, r5, r6, r7, r8) := by first | (rw [hji9] at H; exact H) | (simp only [hji9] at H ⊢; exact H)
    have hji9w : (IntKind.i64.wrap (4 * x6_1)) = ji9 := (i64_w _).trans hji9
    by_cases c10 : 0 ≤ (ji9)
    ·rw [if_pos c10] at H
     have c10b0 : decide (0 ≤ (ji9)) = true := decide_eq_true c10
     clear c10
     by_cases c11 : (ji9) < (l1.length : Int)
     ·rw [if_pos c11] at H
      have c11b0 : decide ((ji9) < (l1.length : Int)) = true := decide_eq_true c11
      clear c11
      obtain ⟨ji12, hji12⟩ : ∃ j_ : Int, (wrap64 ((ji9) + 1)) = j_ := ⟨_, rfl⟩
      replace H : (if 0 ≤ (ji12) then (if (ji12) < (l1.length : Int) then (if 0 ≤ (wrap64 ((ji9) + 2)) then (if (wrap64 ((ji9) + 2)) < (l1.length : Int) then (if 0 ≤ (wrap64 ((ji9) + 3)) then (if (wrap64 ((ji9) + 3)) < (l1.length : Int) then (if 0 ≤ x6_1 then (if x6_1 < (64 : Int) then (hash_state_block.l0 k1 l1 (x5_1.set (x6_1 : Int).toNat (Go.bits .or .u32 (Go.bits .or .u32 (Go.bits .or .u32 ((((rd l1 (ji9)) % 4294967296) * 16777216) % 4294967296) ((((rd l1 (ji12)) % 4294967296) * 65536) % 4294967296)) ((((rd l1 (wrap64 ((ji9) + 2))) % 4294967296) * 256) % 4294967296)) ((rd l1 (wrap64 ((ji9) + 3))) % 4294967296))) (wrap64 (x6_1 + 1)) a0_0 a0_1 a0_2 a0_3 a0_4 a0_5 a0_6 a0_7) else (none)) else (none)) else (none)) else (none)) else (none)) else (none)) else (none)) else (none)) = some (r1, r2, r3, r4, r5, r6, r7, r8) := by first | (rw [hji12] at H; exact H) | (simp only [hji12] at H ⊢; exact H)
      have hji12w : (IntKind.i64.wrap ((ji9) + 1)) = ji12 := (i64_w _).trans hji12
      by_cases c13 : 0 ≤ (ji12)
      ·rw [if_pos c13] at H
       have c13b0 : decide (0 ≤ (ji12)) = true := decide_eq_true c13
       clear c13
       by_cases c14 : (ji12) < (l1.length : Int)
       ·rw [if_pos c14] at H
        have c14b0 : decide ((ji12) < (l1.length : Int)) = true := decide_eq_true c14
        clear c14
        obtain ⟨ji15, hji15⟩ : ∃ j_ : Int, (wrap64 ((ji9) + 2)) = j_ := ⟨_, rfl⟩
        replace H : (if 0 ≤ (ji15) then (if (ji15) < (l1.length : Int) then (if 0 ≤ (wrap64 ((ji9) + 3)) then (if (wrap64 ((ji9) + 3)) < (l1.length : Int) then (if 0 ≤ x6_1 then (if x6_1 < (64 : Int) then (hash_state_block.l0 k1 l1 (x5_1.set (x6_1 : Int).toNat (Go.bits .or .u32 (Go.bits .or .u32 (Go.bits .or .u32 ((((rd l1 (ji9)) % 4294967296) * 16777216) % 4294967296) ((((rd l1 (ji12)) % 4294967296) * 65536) % 4294967296)) ((((rd l1 (ji15)) % 4294967296) * 256) % 4294967296)) ((rd l1 (wrap64 ((ji9) + 3))) % 4294967296))) (wrap64 (x6_1 + 1)) a0_0 a0_1 a0_2 a0_3 a0_4 a0_5 a0_6 a0_7) else (none)) else (none)) else (none)) else (none)) else (none)) else (none)) = some (r1, r2, r3, r4, r5, r6, r7, r8) := by first | (rw [hji15] at H; exact H) | (simp only [hji15] at H ⊢; exact H)
        have hji15w : (IntKind.i64.wrap ((ji9) + 2)) = ji15 := (i64_w _).trans hji15
        by_cases c16 : 0 ≤ (ji15)
        ·rw [if_pos c16] at H
         have c16b0 : decide (0 ≤ (ji15)) = true := decide_eq_true c16
         clear c16
         by_cases c17 : (ji15) < (l1.length : Int)
         ·rw [if_pos c17] at H
          have c17b0 : decide ((ji15) < (l1.length : Int)) = true := decide_eq_true c17
          clear c17
          obtain ⟨ji18, hji18⟩ : ∃ j_ : Int, (wrap64 ((ji9) + 3)) = j_ := ⟨_, rfl⟩
          replace H : (if 0 ≤ (ji18) then (if (ji18) < (l1.length : Int) then (if 0 ≤ x6_1 then (if x6_1 < (64 : Int) then (hash_state_block.l0 k1 l1 (x5_1.set (x6_1 : Int).toNat (Go.bits .or .u32 (Go.bits .or .u32 (Go.bits .or .u32 ((((rd l1 (ji9)) % 4294967296) * 16777216) % 4294967296) ((((rd l1 (ji12)) % 4294967296) * 65536) % 4294967296)) ((((rd l1 (ji15)) % 4294967296) * 256) % 4294967296)) ((rd l1 (ji18)) % 4294967296))) (wrap64 (x6_1 + 1)) a0_0 a0_1 a0_2 a0_3 a0_4 a0_5 a0_6 a0_7) else (none)) else (none)) else (none)) else (none)) = some (r1, r2, r3, r4, r5, r6, r7, r8) := by first | (rw [hji18] at H; exact H) | (simp only [hji18] at H ⊢; exact H)
          have hji18w : (IntKind.i64.wrap ((ji9) + 3)) = ji18 := (i64_w _).trans hji18
          by_cases c19 : 0 ≤ (ji18)
          ·rw [if_pos c19] at H
           have c19b0 : decide (0 ≤ (ji18)) = true := decide_eq_true c19
           clear c19
           by_cases c20 : (ji18) < (l1.length : Int)
           ·rw [if_pos c20] at H
            have c20b0 : decide ((ji18) < (l1.length : Int)) = true := decide_eq_true c20
            clear c20
            by_cases c21 : 0 ≤ x6_1
            ·rw [if_pos c21] at H
             have c21b0 : decide (0 ≤ x6_1) = true := decide_eq_true c21
             clear c21
             by_cases c22 : x6_1 < (64 : Int)
             ·rw [if_pos c22] at H
              have c22b0 : decide (x6_1 < (64 : Int)) = true := decide_eq_true c22
              clear c22
              obtain ⟨y113, hy113⟩ : ∃ y_ : List Int, y_ = (x5_1.set (x6_1 : Int).toNat (Go.bits .or .u32 (Go.bits .or .u32 (Go.bits .or .u32 ((((rd l1 (ji9)) % 4294967296) * 16777216) % 4294967296) ((((rd l1 (ji12)) % 4294967296) * 65536) % 4294967296)) ((((rd l1 (ji15)) % 4294967296) * 256) % 4294967296)) ((rd l1 (ji18)) % 4294967296))) := ⟨_, rfl⟩
              replace H : (hash_state_block.l0 k1 l1 y113 (wrap64 (x6_1 + 1)) a0_0 a0_1 a0_2 a0_3 a0_4 a0_5 a0_6 a0_7) = some (r1, r2, r3, r4, r5, r6, r7, r8) := by first | (rw [hy113]; with_reducible exact H) | (have H2_ := (Option.bind_some _ _).symm.trans H; rw [hy113]; with_reducible exact H2_) | (have H2_ := (Option.bind_some _ _).symm.trans H; with_reducible exact H2_) | with_reducible exact H | (rw [hy113]; exact H) | exact H
              have Ny113 := Aside0.mk hy113
              clear hy113
              have H' := Aside0.mk H
              clear H
              try go_wp2
              have n0_ := Aside0.mk (Kd.R_drew HO_5.out)
              have n1_ := Aside0.mk (blk_drew BK104.out)
              have n2_ := Aside0.mk (blk_drew BK105.out)
              have n3_ := Aside0.mk (below_drew1 HB.out)
              clear HO_5
              clear BK104
              clear BK105
              clear HB
              have HO_5 := n0_
              have BK104 := n1_
              have BK105 := n2_
              have HB := n3_
              clear n0_ n1_ n2_ n3_
              have p109 : 0 ≤ ((ji9) : Int) := of_decide_eq_true (by first | (with_reducible assumption) | assumption)
              have q109 : (ji9) < (l1.length : Int) := of_decide_eq_true (by first | (with_reducible assumption) | assumption)
              obtain ⟨ad109, e109, hx109_0⟩ := Kd.at_int HR1.out (ji9) p109 q109
              have hw109_0 := hx109_0
              cases e109
              replace hx109_0 := (HB.out.cell (World.block_lt_of_cell? w _ hx109_0)).trans hx109_0
              replace p109 := eq_true p109
              replace q109 := eq_true q109
              have p110 : 0 ≤ ((ji12) : Int) := of_decide_eq_true (by first | (with_reducible assumption) | assumption)
              have q110 : (ji12) < (l1.length : Int) := of_decide_eq_true (by first | (with_reducible assumption) | assumption)
              obtain ⟨ad110, e110, hx110_0⟩ := Kd.at_int HR1.out (ji12) p110 q110
              have hw110_0 := hx110_0
              obtain rfl : ad109 = ad110 := (by injection e110)
              replace hx110_0 := (HB.out.cell (World.block_lt_of_cell? w _ hx110_0)).trans hx110_0
              replace p110 := eq_true p110
              replace q110 := eq_true q110
              have p111 : 0 ≤ ((ji15) : Int) := of_decide_eq_true (by first | (with_reducible assumption) | assumption)
              have q111 : (ji15) < (l1.length : Int) := of_decide_eq_true (by first | (with_reducible assumption) | assumption)
              obtain ⟨ad111, e111, hx111_0⟩ := Kd.at_int HR1.out (ji15) p111 q111
              have hw111_0 := hx111_0
              obtain rfl : ad109 = ad111 := (by injection e111)
              replace hx111_0 := (HB.out.cell (World.block_lt_of_cell? w _ hx111_0)).trans hx111_0
              replace p111 := eq_true p111
              replace q111 := eq_true q111
              have p112 : 0 ≤ ((ji18) : Int) := of_decide_eq_true (by first | (with_reducible assumption) | assumption)
              have q112 : (ji18) < (l1.length : Int) := of_decide_eq_true (by first | (with_reducible assumption) | assumption)
              obtain ⟨ad112, e112, hx112_0⟩ := Kd.at_int HR1.out (ji18) p112 q112
              have hw112_0 := hx112_0
              obtain rfl : ad109 = ad112 := (by injection e112)
              replace hx112_0 := (HB.out.cell (World.block_lt_of_cell? w _ hx112_0)).trans hx112_0
              replace p112 := eq_true p112
              replace q112 := eq_true q112
              have p23 : 0 ≤ (x6_1 : Int) := of_decide_eq_true (by first | (with_reducible assumption) | assumption)
              have q23 : (x6_1 : Int) < ((64 : Int) : Int) := of_decide_eq_true (by first | (with_reducible assumption) | assumption)
              obtain ⟨cl23, HG23⟩ := Ext.arr_typed HO_5.out (by decide)
              have GG7 := Aside0.mk HG23
              clear HG23
              obtain ⟨hx23_0, hf23_0⟩ := Kd.R_celln 0 HO_5.out (x6_1 : Int) p23 q23
              replace p23 := eq_true p23
              replace q23 := eq_true q23
              have HP25 := Kd.R_putn HO_5.out (x6_1 : Int) (Go.bits .or .u32 (Go.bits .or .u32 (Go.bits .or .u32 ((((rd l1 (ji9)) % 4294967296) * 16777216) % 4294967296) ((((rd l1 (ji12)) % 4294967296) * 65536) % 4294967296)) ((((rd l1 (ji15)) % 4294967296) * 256) % 4294967296)) ((rd l1 (ji18)) % 4294967296))
              rw [← Ny113.out] at HP25
              have HQ25 := Aside0.mk HP25
              clear HP25
              refine start_ (n := 36) (S := fun w' => w'.cell? (ad109.add ((ji9)).toNat) = some (.int .u8 (rd l1 (ji9))) ∧ w'.cell? (ad109.add ((ji12)).toNat) = some (.int .u8 (rd l1 (ji12))) ∧ w'.cell? (ad109.add ((ji15)).toNat) = some (.int .u8 (rd l1 (ji15))) ∧ w'.cell? (ad109.add ((ji18)).toNat) = some (.int .u8 (rd l1 (ji18)))) (ds := [35]) #[false, false, false, false, false, false, false, false, false, false, false, false, false, false, false, false, false, false, false, false, false, false, false, false, false, false, false, false, false, false, false, false, false, false, false, false] (by kernel_rfl) rfl rfl ⟨((HB.out.cell (World.block_lt_of_cell? w _ hw109_0)).trans hw109_0), ((HB.out.cell (World.block_lt_of_cell? w _ hw110_0)).trans hw110_0), ((HB.out.cell (World.block_lt_of_cell? w _ hw111_0)).trans hw111_0), ((HB.out.cell (World.block_lt_of_cell? w _ hw112_0)).trans hw112_0)⟩ (fun hHeld => ?_); refine with_tabW hash_state_block.tab5 hash_state_block.bits5 (fun HT_ HW_ => ?_)
              generalize wr.drew = w24 at HO_5 BK104 BK105 HB GG7 HQ25 hf23_0 hx109_0 hx110_0 hx111_0 hx112_0 hx23_0 hHeld ⊢
              refine pure_ (i := 0) (N := some 23) (v := ?_) (a' := ?_) #[true, false, false, false, false, false, false, false, false, false, false, false, false, false, false, false, false, false, false, false, false, false, false, false, false, false, false, false, false, false, false, false, false, false, false, false] rfl rfl (any_of HT_.out (by kernel_rfl)) (fun _ _ _ h => h) (Or.inl ⟨by rfl, ?_⟩) ?_ ?_
              rotate_left; (intro w'; go_simp; with_reducible rfl); rotate_left; (simp only [Act.put, List.setIfInBounds_toArray, List.set_cons_zero, List.set_cons_succ, i64_w, i32_w]; rfl)
              refine pure_ (i := 1) (N := some 24) (v := ?_) (a' := ?_) #[true, true, false, false, false, false, false, false, false, false, false, false, false, false, false, false, false, false, false, false, false, false, false, false, false, false, false, false, false, false, false, false, false, false, false, false] rfl rfl (any_of HT_.out (by kernel_rfl)) (fun _ _ _ h => h) (Or.inl ⟨by rfl, ?_⟩) ?_ ?_
              rotate_left; (intro w'; go_simp; with_reducible rfl); rotate_left; (simp only [Act.put, List.setIfInBounds_toArray, List.set_cons_zero, List.set_cons_succ, i64_w, i32_w]; rfl)
              refine pure_ (i := 2) (N := some 25) (v := ?_) (a' := ?_) #[true, true, true, false, false, false, false, false, false, false, false, false, false, false, false, false, false, false, false, false, false, false, false, false, false, false, false, false, false, false, false, false, false, false, false, false] rfl rfl (any_of HT_.out (by kernel_rfl)) (fun _ _ _ h => h) (Or.inl ⟨by rfl, ?_⟩) ?_ ?_
              rotate_left; (intro w'; go_simp; with_reducible rfl); rotate_left; (simp only [Act.put, List.setIfInBounds_toArray, List.set_cons_zero, List.set_cons_succ, i64_w, i32_w]; rfl)
              refine pure_ (i := 3) (N := some 26) (v := ?_) (a' := ?_) #[true, true, true, true, false, false, false, false, false, false, false, false, false, false, false, false, false, false, false, false, false, false, false, false, false, false, false, false, false, false, false, false, false, false, false, false] rfl rfl (any_of HT_.out (by kernel_rfl)) (fun _ _ _ h => h) (Or.inl ⟨by rfl, ?_⟩) ?_ ?_
              rotate_left; (intro w'; go_simp; with_reducible rfl); rotate_left; (simp only [Act.put, List.setIfInBounds_toArray, List.set_cons_zero, List.set_cons_succ, i64_w, i32_w]; rfl)
              refine pure_ (i := 4) (N := some 27) (v := ?_) (a' := ?_) #[true, true, true, true, true, false, false, false, false, false, false, false, false, false, false, false, false, false, false, false, false, false, false, false, false, false, false, false, false, false, false, false, false, false, false, false] rfl rfl (any_of HT_.out (by kernel_rfl)) (fun _ _ _ h => h) (Or.inl ⟨by rfl, ?_⟩) ?_ ?_
              rotate_left; (intro w'; go_simp; with_reducible rfl); rotate_left; (simp only [Act.put, List.setIfInBounds_toArray, List.set_cons_zero, List.set_cons_succ, i64_w, i32_w]; rfl)
              refine pure_ (i := 8) (N := some 31) (v := ?_) (a' := ?_) #[true, true, true, true, true, false, false, false, true, false, false, false, false, false, false, false, false, false, false, false, false, false, false, false, false, false, false, false, false, false, false, false, false, false, false, false] rfl rfl (any_of HT_.out (by kernel_rfl)) (fun _ _ _ h => h) (Or.inl ⟨by rfl, ?_⟩) ?_ ?_
              rotate_left; (intro w'; go_simp; with_reducible rfl); rotate_left; (simp only [Act.put, List.setIfInBounds_toArray, List.set_cons_zero, List.set_cons_succ, i64_w, i32_w]; rfl)
              refine pure_ (i := 9) (N := some 32) (v := ?_) (a' := ?_) #[true, true, true, true, true, false, false, false, true, true, false, false, false, false, false, false, false, false, false, false, false, false, false, false, false, false, false, false, false, false, false, false, false, false, false, false] rfl rfl (any_of HT_.out (by kernel_rfl)) (fun _ _ _ h => h) (Or.inl ⟨by rfl, ?_⟩) ?_ ?_
              rotate_left; (intro w'; go_simp; with_reducible rfl); rotate_left; (simp only [Act.put, List.setIfInBounds_toArray, List.set_cons_zero, List.set_cons_succ, i64_w, i32_w]; rfl)
              refine pure_ (i := 10) (N := some 33) (v := ?_) (a' := ?_) #[true, true, true, true, true, false, false, false, true, true, true, false, false, false, false, false, false, false, false, false, false, false, false, false, false, false, false, false, false, false, false, false, false, false, false, false] rfl rfl (any_of HT_.out (by kernel_rfl)) (fun _ _ _ h => h) (Or.inl ⟨by rfl, ?_⟩) ?_ ?_
              rotate_left; (intro w'; go_simp; with_reducible rfl); rotate_left; (simp only [Act.put, List.setIfInBounds_toArray, List.set_cons_zero, List.set_cons_succ, i64_w, i32_w]; rfl)
              refine pure_ (i := 11) (N := some 34) (v := ?_) (a' := ?_) #[true, true, true, true, true, false, false, false, true, true, true, true, false, false, false, false, false, false, false, false, false, false, false, false, false, false, false, false, false, false, false, false, false, false, false, false] rfl rfl (any_of HT_.out (by kernel_rfl)) (fun _ _ _ h => h) (Or.inl ⟨by rfl, ?_⟩) ?_ ?_
              rotate_left; (intro w'; go_simp; with_reducible rfl); rotate_left; (simp only [Act.put, List.setIfInBounds_toArray, List.set_cons_zero, List.set_cons_succ, i64_w, i32_w]; rfl)
              refine pure_ (i := 12) (N := some 35) (v := ?_) (a' := ?_) #[true, true, true, true, true, false, false, false, true, true, true, true, true, false, false, false, false, false, false, false, false, false, false, false, false, false, false, false, false, false, false, false, false, false, false, false] rfl rfl (any_of HT_.out (by kernel_rfl)) (fun _ _ _ h => h) (Or.inl ⟨by rfl, ?_⟩) ?_ ?_
              rotate_left; (intro w'; go_simp; with_reducible rfl); rotate_left; (simp only [Act.put, List.setIfInBounds_toArray, List.set_cons_zero, List.set_cons_succ, i64_w, i32_w]; rfl)
              refine pure_ (i := 17) (N := some 40) (v := ?_) (a' := ?_) #[true, true, true, true, true, false, false, false, true, true, true, true, true, false, false, false, false, true, false, false, false, false, false, false, false, false, false, false, false, false, false, false, false, false, false, false] rfl rfl (any_of HT_.out (by kernel_rfl)) (fun _ _ _ h => h) (Or.inl ⟨by rfl, ?_⟩) ?_ ?_
              rotate_left; (intro w'; go_simp; with_reducible rfl); rotate_left; (simp only [Act.put, List.setIfInBounds_toArray, List.set_cons_zero, List.set_cons_succ, i64_w, i32_w]; rfl)
              refine pure_ (i := 18) (N := some 41) (v := ?_) (a' := ?_) #[true, true, true, true, true, false, false, false, true, true, true, true, true, false, false, false, false, true, true, false, false, false, false, false, false, false, false, false, false, false, false, false, false, false, false, false] rfl rfl (any_of HT_.out (by kernel_rfl)) (fun _ _ _ h => h) (Or.inl ⟨by rfl, ?_⟩) ?_ ?_
              rotate_left; (intro w'; go_simp; with_reducible rfl); rotate_left; (simp only [Act.put, List.setIfInBounds_toArray, List.set_cons_zero, List.set_cons_succ, i64_w, i32_w]; rfl)
              refine pure_ (i := 19) (N := some 42) (v := ?_) (a' := ?_) #[true, true, true, true, true, false, false, false, true, true, true, true, true, false, false, false, false, true, true, true, false, false, false, false, false, false, false, false, false, false, false, false, false, false, false, false] rfl rfl (any_of HT_.out (by kernel_rfl)) (fun _ _ _ h => h) (Or.inl ⟨by rfl, ?_⟩) ?_ ?_
              rotate_left; (intro w'; go_simp; with_reducible rfl); rotate_left; (simp only [Act.put, List.setIfInBounds_toArray, List.set_cons_zero, List.set_cons_succ, i64_w, i32_w]; rfl)
              refine pure_ (i := 20) (N := some 43) (v := ?_) (a' := ?_) #[true, true, true, true, true, false, false, false, true, true, true, true, true, false, false, false, false, true, true, true, true, false, false, false, false, false, false, false, false, false, false, false, false, false, false, false] rfl rfl (any_of HT_.out (by kernel_rfl)) (fun _ _ _ h => h) (Or.inl ⟨by rfl, ?_⟩) ?_ ?_
              rotate_left; (intro w'; go_simp; with_reducible rfl); rotate_left; (simp only [Act.put, List.setIfInBounds_toArray, List.set_cons_zero, List.set_cons_succ, i64_w, i32_w]; rfl)
              refine pure_ (i := 21) (N := some 44) (v := ?_) (a' := ?_) #[true, true, true, true, true, false, false, false, true, true, true, true, true, false, false, false, false, true, true, true, true, true, false, false, false, false, false, false, false, false, false, false, false, false, false, false] rfl rfl (any_of HT_.out (by kernel_rfl)) (fun _ _ _ h => h) (Or.inl ⟨by rfl, ?_⟩) ?_ ?_
              rotate_left; (intro w'; go_simp; with_reducible rfl); rotate_left; (simp only [Act.put, List.setIfInBounds_toArray, List.set_cons_zero, List.set_cons_succ, i64_w, i32_w]; rfl)
              refine pure_ (i := 26) (N := some 49) (v := ?_) (a' := ?_) #[true, true, true, true, true, false, false, false, true, true, true, true, true, false, false, false, false, true, true, true, true, true, false, false, false, false, true, false, false, false, false, false, false, false, false, false] rfl rfl (any_of HT_.out (by kernel_rfl)) (fun _ _ _ h => h) (Or.inl ⟨by rfl, ?_⟩) ?_ ?_
              rotate_left; (intro w'; go_simp; with_reducible rfl); rotate_left; (simp only [Act.put, List.setIfInBounds_toArray, List.set_cons_zero, List.set_cons_succ, i64_w, i32_w]; rfl)
              refine pure_ (i := 27) (N := some 50) (v := ?_) (a' := ?_) #[true, true, true, true, true, false, false, false, true, true, true, true, true, false, false, false, false, true, true, true, true, true, false, false, false, false, true, true, false, false, false, false, false, false, false, false] rfl rfl (any_of HT_.out (by kernel_rfl)) (fun _ _ _ h => h) (Or.inl ⟨by rfl, ?_⟩) ?_ ?_
              rotate_left; (intro w'; go_simp; with_reducible rfl); rotate_left; (simp only [Act.put, List.setIfInBounds_toArray, List.set_cons_zero, List.set_cons_succ, i64_w, i32_w]; rfl)
              refine pure_ (i := 28) (N := some 51) (v := ?_) (a' := ?_) #[true, true, true, true, true, false, false, false, true, true, true, true, true, false, false, false, false, true, true, true, true, true, false, false, false, false, true, true, true, false, false, false, false, false, false, false] rfl rfl (any_of HT_.out (by kernel_rfl)) (fun _ _ _ h => h) (Or.inl ⟨by rfl, ?_⟩) ?_ ?_
              rotate_left; (intro w'; go_simp; with_reducible rfl); rotate_left; (simp only [Act.put, List.setIfInBounds_toArray, List.set_cons_zero, List.set_cons_succ, i64_w, i32_w]; rfl)
              refine pure_ (i := 29) (N := some 52) (v := ?_) (a' := ?_) #[true, true, true, true, true, false, false, false, true, true, true, true, true, false, false, false, false, true, true, true, true, true, false, false, false, false, true, true, true, true, false, false, false, false, false, false] rfl rfl (any_of HT_.out (by kernel_rfl)) (fun _ _ _ h => h) (Or.inl ⟨by rfl, ?_⟩) ?_ ?_
              rotate_left; (intro w'; go_simp; with_reducible rfl); rotate_left; (simp only [Act.put, List.setIfInBounds_toArray, List.set_cons_zero, List.set_cons_succ, i64_w, i32_w]; rfl)
              refine pure_ (i := 30) (N := some 53) (v := ?_) (a' := ?_) #[true, true, true, true, true, false, false, false, true, true, true, true, true, false, false, false, false, true, true, true, true, true, false, false, false, false, true, true, true, true, true, false, false, false, false, false] rfl rfl (any_of HT_.out (by kernel_rfl)) (fun _ _ _ h => h) (Or.inl ⟨by rfl, ?_⟩) ?_ ?_
              rotate_left; (intro w'; go_simp; with_reducible rfl); rotate_left; (simp only [Act.put, List.setIfInBounds_toArray, List.set_cons_zero, List.set_cons_succ, i64_w, i32_w]; rfl)
              refine take_ (i := 5) (N := some 28) (v := ?_) (a' := ?_) #[true, true, true, true, true, true, false, false, true, true, true, true, true, false, false, false, false, true, true, true, true, true, false, false, false, false, true, true, true, true, true, false, false, false, false, false] rfl rfl (take_ofW HT_.out HW_.out (by kernel_rfl)) (fun _ _ _ h => h) (Or.inl ⟨by rfl, ?_⟩) hHeld ?_ ?_
              rotate_left; (rintro w' ⟨s0, s1, s2, s3⟩; go_simp; with_reducible rfl); rotate_left; (simp only [Act.put, List.setIfInBounds_toArray, List.set_cons_zero, List.set_cons_succ, i64_w, i32_w]; rfl)
              refine pure_ (i := 6) (N := some 29) (v := ?_) (a' := ?_) #[true, true, true, true, true, true, true, false, true, true, true, true, true, false, false, false, false, true, true, true, true, true, false, false, false, false, true, true, true, true, true, false, false, false, false, false] rfl rfl (any_of HT_.out (by kernel_rfl)) (fun _ _ _ h => h) (Or.inl ⟨by rfl, ?_⟩) ?_ ?_
              rotate_left; (intro w'; go_simp; with_reducible rfl); rotate_left; (simp only [Act.put, List.setIfInBounds_toArray, List.set_cons_zero, List.set_cons_succ, i64_w, i32_w]; rfl)
              refine pure_ (i := 7) (N := some 30) (v := ?_) (a' := ?_) #[true, true, true, true, true, true, true, true, true, true, true, true, true, false, false, false, false, true, true, true, true, true, false, false, false, false, true, true, true, true, true, false, false, false, false, false] rfl rfl (any_of HT_.out (by kernel_rfl)) (fun _ _ _ h => h) (Or.inl ⟨by rfl, ?_⟩) ?_ ?_
              rotate_left; (intro w'; go_simp; with_reducible rfl); rotate_left; (simp only [Act.put, List.setIfInBounds_toArray, List.set_cons_zero, List.set_cons_succ, i64_w, i32_w]; rfl)
              refine take_ (i := 13) (N := some 36) (v := ?_) (a' := ?_) #[true, true, true, true, true, true, true, true, true, true, true, true, true, true, false, false, false, true, true, true, true, true, false, false, false, false, true, true, true, true, true, false, false, false, false, false] rfl rfl (take_ofW HT_.out HW_.out (by kernel_rfl)) (fun _ _ _ h => h) (Or.inl ⟨by rfl, ?_⟩) hHeld ?_ ?_
              rotate_left; (rintro w' ⟨s0, s1, s2, s3⟩; go_simp; with_reducible rfl); rotate_left; (simp only [Act.put, List.setIfInBounds_toArray, List.set_cons_zero, List.set_cons_succ, i64_w, i32_w]; rfl)
              refine pure_ (i := 14) (N := some 37) (v := ?_) (a' := ?_) #[true, true, true, true, true, true, true, true, true, true, true, true, true, true, true, false, false, true, true, true, true, true, false, false, false, false, true, true, true, true, true, false, false, false, false, false] rfl rfl (any_of HT_.out (by kernel_rfl)) (fun _ _ _ h => h) (Or.inl ⟨by rfl, ?_⟩) ?_ ?_
              rotate_left; (intro w'; go_simp; with_reducible rfl); rotate_left; (simp only [Act.put, List.setIfInBounds_toArray, List.set_cons_zero, List.set_cons_succ, i64_w, i32_w]; rfl)
              refine pure_ (i := 15) (N := some 38) (v := ?_) (a' := ?_) #[true, true, true, true, true, true, true, true, true, true, true, true, true, true, true, true, false, true, true, true, true, true, false, false, false, false, true, true, true, true, true, false, false, false, false, false] rfl rfl (any_of HT_.out (by kernel_rfl)) (fun _ _ _ h => h) (Or.inl ⟨by rfl, ?_⟩) ?_ ?_
              rotate_left; (intro w'; go_simp; with_reducible rfl); rotate_left; (simp only [Act.put, List.setIfInBounds_toArray, List.set_cons_zero, List.set_cons_succ, i64_w, i32_w]; rfl)
              refine pure_ (i := 16) (N := some 39) (v := ?_) (a' := ?_) #[true, true, true, true, true, true, true, true, true, true, true, true, true, true, true, true, true, true, true, true, true, true, false, false, false, false, true, true, true, true, true, false, false, false, false, false] rfl rfl (any_of HT_.out (by kernel_rfl)) (fun _ _ _ h => h) (Or.inl ⟨by rfl, ?_⟩) ?_ ?_
              rotate_left; (intro w'; go_simp; with_reducible rfl); rotate_left; (simp only [Act.put, List.setIfInBounds_toArray, List.set_cons_zero, List.set_cons_succ, i64_w, i32_w]; rfl)
              refine take_ (i := 22) (N := some 45) (v := ?_) (a' := ?_) #[true, true, true, true, true, true, true, true, true, true, true, true, true, true, true, true, true, true, true, true, true, true, true, false, false, false, true, true, true, true, true, false, false, false, false, false] rfl rfl (take_ofW HT_.out HW_.out (by kernel_rfl)) (fun _ _ _ h => h) (Or.inl ⟨by rfl, ?_⟩) hHeld ?_ ?_
              rotate_left; (rintro w' ⟨s0, s1, s2, s3⟩; go_simp; with_reducible rfl); rotate_left; (simp only [Act.put, List.setIfInBounds_toArray, List.set_cons_zero, List.set_cons_succ, i64_w, i32_w]; rfl)
              refine pure_ (i := 23) (N := some 46) (v := ?_) (a' := ?_) #[true, true, true, true, true, true, true, true, true, true, true, true, true, true, true, true, true, true, true, true, true, true, true, true, false, false, true, true, true, true, true, false, false, false, false, false] rfl rfl (any_of HT_.out (by kernel_rfl)) (fun _ _ _ h => h) (Or.inl ⟨by rfl, ?_⟩) ?_ ?_
              rotate_left; (intro w'; go_simp; with_reducible rfl); rotate_left; (simp only [Act.put, List.setIfInBounds_toArray, List.set_cons_zero, List.set_cons_succ, i64_w, i32_w]; rfl)
              refine pure_ (i := 24) (N := some 47) (v := ?_) (a' := ?_) #[true, true, true, true, true, true, true, true, true, true, true, true, true, true, true, true, true, true, true, true, true, true, true, true, true, false, true, true, true, true, true, false, false, false, false, false] rfl rfl (any_of HT_.out (by kernel_rfl)) (fun _ _ _ h => h) (Or.inl ⟨by rfl, ?_⟩) ?_ ?_
              rotate_left; (intro w'; go_simp; with_reducible rfl); rotate_left; (simp only [Act.put, List.setIfInBounds_toArray, List.set_cons_zero, List.set_cons_succ, i64_w, i32_w]; rfl)
              refine pure_ (i := 25) (N := some 48) (v := ?_) (a' := ?_) #[true, true, true, true, true, true, true, true, true, true, true, true, true, true, true, true, true, true, true, true, true, true, true, true, true, true, true, true, true, true, true, false, false, false, false, false] rfl rfl (any_of HT_.out (by kernel_rfl)) (fun _ _ _ h => h) (Or.inl ⟨by rfl, ?_⟩) ?_ ?_
              rotate_left; (intro w'; go_simp; with_reducible rfl); rotate_left; (simp only [Act.put, List.setIfInBounds_toArray, List.set_cons_zero, List.set_cons_succ, i64_w, i32_w]; rfl)
              refine take_ (i := 31) (N := some 54) (v := ?_) (a' := ?_) #[true, true, true, true, true, true, true, true, true, true, true, true, true, true, true, true, true, true, true, true, true, true, true, true, true, true, true, true, true, true, true, true, false, false, false, false] rfl rfl (take_ofW HT_.out HW_.out (by kernel_rfl)) (fun _ _ _ h => h) (Or.inl ⟨by rfl, ?_⟩) hHeld ?_ ?_
              rotate_left; (rintro w' ⟨s0, s1, s2, s3⟩; go_simp; with_reducible rfl); rotate_left; (simp only [Act.put, List.setIfInBounds_toArray, List.set_cons_zero, List.set_cons_succ, i64_w, i32_w]; rfl)
              refine pure_ (i := 32) (N := some 55) (v := ?_) (a' := ?_) #[true, true, true, true, true, true, true, true, true, true, true, true, true, true, true, true, true, true, true, true, true, true, true, true, true, true, true, true, true, true, true, true, true, false, false, false] rfl rfl (any_of HT_.out (by kernel_rfl)) (fun _ _ _ h => h) (Or.inl ⟨by rfl, ?_⟩) ?_ ?_
              rotate_left; (intro w'; go_simp; with_reducible rfl); rotate_left; (simp only [Act.put, List.setIfInBounds_toArray, List.set_cons_zero, List.set_cons_succ, i64_w, i32_w]; rfl)
              refine pure_ (i := 33) (N := some 56) (v := ?_) (a' := ?_) #[true, true, true, true, true, true, true, true, true, true, true, true, true, true, true, true, true, true, true, true, true, true, true, true, true, true, true, true, true, true, true, true, true, true, false, false] rfl rfl (any_of HT_.out (by kernel_rfl)) (fun _ _ _ h => h) (Or.inl ⟨by rfl, ?_⟩) ?_ ?_
              rotate_left; (intro w'; go_simp; with_reducible rfl); rotate_left; (simp only [Act.put, List.setIfInBounds_toArray, List.set_cons_zero, List.set_cons_succ, i64_w, i32_w]; rfl)
              refine pure_ (i := 34) (N := some 57) (v := ?_) (a' := ?_) #[true, true, true, true, true, true, true, true, true, true, true, true, true, true, true, true, true, true, true, true, true, true, true, true, true, true, true, true, true, true, true, true, true, true, true, false] rfl rfl (any_of HT_.out (by kernel_rfl)) (fun _ _ _ h => h) (Or.inl ⟨by rfl, ?_⟩) ?_ ?_
              rotate_left; (intro w'; go_simp; with_reducible rfl); rotate_left; (simp only [Act.put, List.setIfInBounds_toArray, List.set_cons_zero, List.set_cons_succ, i64_w, i32_w]; rfl)
              refine last_ (i := 35) (N := none) #[true, true, true, true, true, true, true, true, true, true, true, true, true, true, true, true, true, true, true, true, true, true, true, true, true, true, true, true, true, true, true, true, true, true, true, true] rfl rfl (one_of HT_.out (by kernel_rfl)) (by decide) (fun K hK => ?_)
              refine skip_ (w1 := ?_) (by rfl) rfl ?_ ?_
              rotate_left
              ·go_simp
               rfl
              refine hK.out _ _ ?_
              clear hK K
              refine done_ (done_of HT_.out (by kernel_rfl)) ?_
              try go_wp2
              go_roundg k1
              case measure => have := HK1.out; omega
              case rel => exact ⟨(y113), (wrap64 (x6_1 + 1)), (by first | rfl | (simp; done) | (simp [*]; done)), H', ⟨by have := HK1.out; omega⟩, ⟨by (with_reducible repeat (first | apply Kd.R_alloc | apply Kd.R_drewN | apply Kd.R_drew)); exact HQ25.out⟩, ⟨by (with_reducible repeat (first | refine blk_drewN ?_ _ | refine blk_drew ?_ | refine blk_alloc ?_ _)); refine blk_far ?_ (by have h_ := Kd.R_ne HO_5.out BK104.out (by decide); intro e_; exact h_ (by rw [e_]; rfl)) _; (with_reducible repeat (first | refine blk_drewN ?_ _ | refine blk_drew ?_ | refine blk_alloc ?_ _)); exact BK104.out⟩, ⟨by (with_reducible repeat (first | refine blk_drewN ?_ _ | refine blk_drew ?_ | refine blk_alloc ?_ _)); refine blk_far ?_ (by have h_ := Kd.R_ne HO_5.out BK105.out (by decide); intro e_; exact h_ (by rw [e_]; rfl)) _; (with_reducible repeat (first | refine blk_drewN ?_ _ | refine blk_drew ?_ | refine blk_alloc ?_ _)); exact BK105.out⟩, ⟨by repeat (first | (with_reducible first | exact HB.out | apply below_alloc | apply pw_below_drewN | apply below_drew1 | refine below_set ?_ GB7.out | refine below_set ?_ GE104.out | refine below_set ?_ GE105.out) | exact HB.out)⟩⟩
             ·rw [if_neg c22] at H
              exact absurd H (by simp)
            ·rw [if_neg c21] at H
             exact absurd H (by simp)
           ·rw [if_neg c20] at H
            exact absurd H (by simp)
          ·rw [if_neg c19] at H
           exact absurd H (by simp)
         ·rw [if_neg c17] at H
          exact absurd H (by simp)
        ·rw [if_neg c16] at H
         exact absurd H (by simp)
       ·rw [if_neg c14] at H
        exact absurd H (by simp)
      ·rw [if_neg c13] at H
       exact absurd H (by simp)
     ·rw [if_neg c11] at H
      exact absurd H (by simp)
    ·rw [if_neg c10] at H
     exact absurd H (by simp)
   ·rw [if_neg c8] at H
    have c8b0 : decide (x6_1 < 16) = false := decide_eq_false c8
    clear c8
    have H' := Aside0.mk H
    clear H
    go_wp2
    go_loopg [7] k1 (fun kq v7 w' => ∃ (x5_2 : List Int) (x7_2 : Int), v7 = .int .i64 x7_2 ∧ Aside0 (hash_state_block.l1 kq x5_2 x7_2 a0_0 a0_1 a0_2 a0_3 a0_4 a0_5 a0_6 a0_7 = some (r1, r2, r3, r4, r5, r6, r7, r8)) ∧ Aside0 (kq ≤ k1) ∧ Aside0 (Kd.R (Kd.int .u32) 52 w' w.heap.size (fun _ => True) (.slice (some ⟨go7, 0, none⟩) 64 64) x5_2) ∧ Aside0 (w'.heap[gb104]? = some (.cells #[.int .u32 a0_0, .int .u32 a0_1, .int .u32 a0_2, .int .u32 a0_3, .int .u32 a0_4, .int .u32 a0_5, .int .u32 a0_6, .int .u32 a0_7] 37 (0, 0))) ∧ Aside0 (w'.heap[gb105]? = some (.cells #[.int .u32 0, .int .u32 0, .int .u32 0, .int .u32 0, .int .u32 0, .int .u32 0, .int .u32 0, .int .u32 0] 37 (0, 0))) ∧ Aside0 (Below w.heap.size w w'))
    case atStart => exact ⟨(x5_1), (16), (by first | rfl | (simp; done) | (simp [*]; done)), H', ⟨Nat.le_refl _⟩, ⟨by (with_reducible repeat (first | apply Kd.R_alloc | apply Kd.R_drewN | apply Kd.R_drew)); exact HO_5.out⟩, ⟨by (with_reducible repeat (first | refine blk_drewN ?_ _ | refine blk_drew ?_ | refine blk_alloc ?_ _)); exact BK104.out⟩, ⟨by (with_reducible repeat (first | refine blk_drewN ?_ _ | refine blk_drew ?_ | refine blk_alloc ?_ _)); exact BK105.out⟩, ⟨by repeat (first | (with_reducible first | exact HB.out | apply below_alloc | apply pw_below_drewN | apply below_drew1 | refine below_set ?_ GE104.out | refine below_set ?_ GE105.out) | exact HB.out)⟩⟩
    case round =>
     clear H'
     try clear c1
     try clear p1
     try clear q1
     try clear hx1
     try clear c2
     try clear p2
     try clear q2
     try clear hx2
     try clear hf2
     try clear p6
     try clear c8
     try clear c8b0
     try clear c10
     try clear c10b0
     try clear p10
     try clear q10
     try clear hx10
     try clear c11
     try clear c11b0
     try clear p11
     try clear q11
     try clear hx11
     try clear c13
     try clear c13b0
     try clear c14
     try clear c14b0
     try clear c16
     try clear c16b0
     try clear c17
     try clear c17b0
     try clear c19
     try clear c19b0
     try clear c20
     try clear c20b0
     try clear c21
     try clear c21b0
     try clear c22
     try clear c22b0
     try clear p23
     try clear q23
     try clear hx23
     try clear hf23
     try clear c24
     try clear hx109_0
     try clear hx110_0
     try clear hx111_0
     try clear hx112_0
     try clear hx23_0
     try clear p109
     try clear p110
     try clear p111
     try clear p112
     try clear p2
     try clear p23
     try clear q109
     try clear q110
     try clear q111
     try clear q112
     try clear q23
     obtain ⟨x5_2, x7_2, rfl, HA, HK2, HO_5, BK104, BK105, HB⟩ := hrel
     cases gk with
     | zero => exact absurd HA.out (by simp [hash_state_block.l1])
     | succ k2 =>
      have H := HA.out
      clear HA
      simp only [hash_state_block.l1] at H
      by_cases c26 : x7_2 < 64
      ·rw [if_pos c26] at H
       have c26b0 : decide (x7_2 < 64) = true := decide_eq_true c26
       clear c26
       obtain ⟨ji27, hji27⟩ : ∃ j_ : Int, (wrap64 (x7_2 - 15)) = j_ := ⟨_, rfl⟩
       replace H : (if 0 ≤ (ji27) then (if (ji27) < (64 : Int) then ((hash_turn.f (rd x5_2 (ji27)) 7).bind fun t115 => ((hash_turn.f (rd x5_2 (ji27)) 18).bind fun t117 => (if 0 ≤ (wrap64 (x7_2 - 2)) then (if (wrap64 (x7_2 - 2)) < (64 : Int) then ((hash_turn.f (rd x5_2 (wrap64 (x7_2 - 2))) 17).bind fun t120 => ((hash_turn.f (rd x5_2 (wrap64 (x7_2 - 2))) 19).bind fun t122 => (if 0 ≤ (wrap64 (x7_2 - 16)) then (if (wrap64 (x7_2 - 16)) < (64 : Int) then (if 0 ≤ (wrap64 (x7_2 - 7)) then (if (wrap64 (x7_2 - 7)) < (64 : Int) then (if 0 ≤ x7_2 then (if x7_2 < (64 : Int) then (hash_state_block.l1 k2 (x5_2.set (x7_2 : Int).toNat (((((rd x5_2 (wrap64 (x7_2 - 16))) + (Go.bits .xor .u32 (Go.bits .xor .u32 t115 t117) ((rd x5_2 (ji27)) / 8))) + (rd x5_2 (wrap64 (x7_2 - 7)))) + (Go.bits .xor .u32 (Go.bits .xor .u32 t120 t122) ((rd x5_2 (wrap64 (x7_2 - 2))) / 1024))) % 4294967296)) (wrap64 (x7_2 + 1)) a0_0 a0_1 a0_2 a0_3 a0_4 a0_5 a0_6 a0_7) else (none)) else (none)) else (none)) else (none)) else (none)) else (none)))) else (none)) else (none)))) else (none)) else (none)) = some (r1, r2, r3, r4, r5, r6, r7, r8) := by first | (rw [hji27] at H; exact H) | (simp only [hji27] at H ⊢; exact H)
       have hji27w : (IntKind.i64.wrap (x7_2 - 15)) = ji27 := (i64_w _).trans hji27
       by_cases c28 : 0 ≤ (ji27)
       ·rw [if_pos c28] at H
        have c28b0 : decide (0 ≤ (ji27)) = true := decide_eq_true c28
        clear c28
        by_cases c29 : (ji27) < (64 : Int)
        ·rw [if_pos c29] at H
         have c29b0 : decide ((ji27) < (64 : Int)) = true := decide_eq_true c29
         clear c29
         replace H := Option.bind_eq_some_iff.mp H
         obtain ⟨t115, A300, H⟩ := H
         replace H : ((hash_turn.f (rd x5_2 (ji27)) 18).bind fun t117 => (if 0 ≤ (wrap64 (x7_2 - 2)) then (if (wrap64 (x7_2 - 2)) < (64 : Int) then ((hash_turn.f (rd x5_2 (wrap64 (x7_2 - 2))) 17).bind fun t120 => ((hash_turn.f (rd x5_2 (wrap64 (x7_2 - 2))) 19).bind fun t122 => (if 0 ≤ (wrap64 (x7_2 - 16)) then (if (wrap64 (x7_2 - 16)) < (64 : Int) then (if 0 ≤ (wrap64 (x7_2 - 7)) then (if (wrap64 (x7_2 - 7)) < (64 : Int) then (if 0 ≤ x7_2 then (if x7_2 < (64 : Int) then (hash_state_block.l1 k2 (x5_2.set (x7_2 : Int).toNat (((((rd x5_2 (wrap64 (x7_2 - 16))) + (Go.bits .xor .u32 (Go.bits .xor .u32 t115 t117) ((rd x5_2 (ji27)) / 8))) + (rd x5_2 (wrap64 (x7_2 - 7)))) + (Go.bits .xor .u32 (Go.bits .xor .u32 t120 t122) ((rd x5_2 (wrap64 (x7_2 - 2))) / 1024))) % 4294967296)) (wrap64 (x7_2 + 1)) a0_0 a0_1 a0_2 a0_3 a0_4 a0_5 a0_6 a0_7) else (none)) else (none)) else (none)) else (none)) else (none)) else (none)))) else (none)) else (none))) = some (r1, r2, r3, r4, r5, r6, r7, r8) := H
         have A30 := Aside0.mk A300
         clear A300
         replace H := Option.bind_eq_some_iff.mp H
         obtain ⟨t117, A310, H⟩ := H
         replace H : (if 0 ≤ (wrap64 (x7_2 - 2)) then (if (wrap64 (x7_2 - 2)) < (64 : Int) then ((hash_turn.f (rd x5_2 (wrap64 (x7_2 - 2))) 17).bind fun t120 => ((hash_turn.f (rd x5_2 (wrap64 (x7_2 - 2))) 19).bind fun t122 => (if 0 ≤ (wrap64 (x7_2 - 16)) then (if (wrap64 (x7_2 - 16)) < (64 : Int) then (if 0 ≤ (wrap64 (x7_2 - 7)) then (if (wrap64 (x7_2 - 7)) < (64 : Int) then (if 0 ≤ x7_2 then (if x7_2 < (64 : Int) then (hash_state_block.l1 k2 (x5_2.set (x7_2 : Int).toNat (((((rd x5_2 (wrap64 (x7_2 - 16))) + (Go.bits .xor .u32 (Go.bits .xor .u32 t115 t117) ((rd x5_2 (ji27)) / 8))) + (rd x5_2 (wrap64 (x7_2 - 7)))) + (Go.bits .xor .u32 (Go.bits .xor .u32 t120 t122) ((rd x5_2 (wrap64 (x7_2 - 2))) / 1024))) % 4294967296)) (wrap64 (x7_2 + 1)) a0_0 a0_1 a0_2 a0_3 a0_4 a0_5 a0_6 a0_7) else (none)) else (none)) else (none)) else (none)) else (none)) else (none)))) else (none)) else (none)) = some (r1, r2, r3, r4, r5, r6, r7, r8) := H
         have A31 := Aside0.mk A310
         clear A310
         obtain ⟨ji32, hji32⟩ : ∃ j_ : Int, (wrap64 (x7_2 - 2)) = j_ := ⟨_, rfl⟩
         replace H : (if 0 ≤ (ji32) then (if (ji32) < (64 : Int) then ((hash_turn.f (rd x5_2 (ji32)) 17).bind fun t120 => ((hash_turn.f (rd x5_2 (ji32)) 19).bind fun t122 => (if 0 ≤ (wrap64 (x7_2 - 16)) then (if (wrap64 (x7_2 - 16)) < (64 : Int) then (if 0 ≤ (wrap64 (x7_2 - 7)) then (if (wrap64 (x7_2 - 7)) < (64 : Int) then (if 0 ≤ x7_2 then (if x7_2 < (64 : Int) then (hash_state_block.l1 k2 (x5_2.set (x7_2 : Int).toNat (((((rd x5_2 (wrap64 (x7_2 - 16))) + (Go.bits .xor .u32 (Go.bits .xor .u32 t115 t117) ((rd x5_2 (ji27)) / 8))) + (rd x5_2 (wrap64 (x7_2 - 7)))) + (Go.bits .xor .u32 (Go.bits .xor .u32 t120 t122) ((rd x5_2 (ji32)) / 1024))) % 4294967296)) (wrap64 (x7_2 + 1)) a0_0 a0_1 a0_2 a0_3 a0_4 a0_5 a0_6 a0_7) else (none)) else (none)) else (none)) else (none)) else (none)) else (none)))) else (none)) else (none)) = some (r1, r2, r3, r4, r5, r6, r7, r8) := by first | (rw [hji32] at H; exact H) | (simp only [hji32] at H ⊢; exact H)
         (try rw [hji32] at A30)
         (try rw [hji32] at A31)
         have hji32w : (IntKind.i64.wrap (x7_2 - 2)) = ji32 := (i64_w _).trans hji32
         by_cases c33 : 0 ≤ (ji32)
         ·rw [if_pos c33] at H
          have c33b0 : decide (0 ≤ (ji32)) = true := decide_eq_true c33
          clear c33
          by_cases c34 : (ji32) < (64 : Int)
          ·rw [if_pos c34] at H
           have c34b0 : decide ((ji32) < (64 : Int)) = true := decide_eq_true c34
           clear c34
           replace H := Option.bind_eq_some_iff.mp H
           obtain ⟨t120, A350, H⟩ := H
           replace H : ((hash_turn.f (rd x5_2 (ji32)) 19).bind fun t122 => (if 0 ≤ (wrap64 (x7_2 - 16)) then (if (wrap64 (x7_2 - 16)) < (64 : Int) then (if 0 ≤ (wrap64 (x7_2 - 7)) then (if (wrap64 (x7_2 - 7)) < (64 : Int) then (if 0 ≤ x7_2 then (if x7_2 < (64 : Int) then (hash_state_block.l1 k2 (x5_2.set (x7_2 : Int).toNat (((((rd x5_2 (wrap64 (x7_2 - 16))) + (Go.bits .xor .u32 (Go.bits .xor .u32 t115 t117) ((rd x5_2 (ji27)) / 8))) + (rd x5_2 (wrap64 (x7_2 - 7)))) + (Go.bits .xor .u32 (Go.bits .xor .u32 t120 t122) ((rd x5_2 (ji32)) / 1024))) % 4294967296)) (wrap64 (x7_2 + 1)) a0_0 a0_1 a0_2 a0_3 a0_4 a0_5 a0_6 a0_7) else (none)) else (none)) else (none)) else (none)) else (none)) else (none))) = some (r1, r2, r3, r4, r5, r6, r7, r8) := H
           have A35 := Aside0.mk A350
           clear A350
           replace H := Option.bind_eq_some_iff.mp H
           obtain ⟨t122, A360, H⟩ := H
           replace H : (if 0 ≤ (wrap64 (x7_2 - 16)) then (if (wrap64 (x7_2 - 16)) < (64 : Int) then (if 0 ≤ (wrap64 (x7_2 - 7)) then (if (wrap64 (x7_2 - 7)) < (64 : Int) then (if 0 ≤ x7_2 then (if x7_2 < (64 : Int) then (hash_state_block.l1 k2 (x5_2.set (x7_2 : Int).toNat (((((rd x5_2 (wrap64 (x7_2 - 16))) + (Go.bits .xor .u32 (Go.bits .xor .u32 t115 t117) ((rd x5_2 (ji27)) / 8))) + (rd x5_2 (wrap64 (x7_2 - 7)))) + (Go.bits .xor .u32 (Go.bits .xor .u32 t120 t122) ((rd x5_2 (ji32)) / 1024))) % 4294967296)) (wrap64 (x7_2 + 1)) a0_0 a0_1 a0_2 a0_3 a0_4 a0_5 a0_6 a0_7) else (none)) else (none)) else (none)) else (none)) else (none)) else (none)) = some (r1, r2, r3, r4, r5, r6, r7, r8) := H
           have A36 := Aside0.mk A360
           clear A360
           obtain ⟨ji37, hji37⟩ : ∃ j_ : Int, (wrap64 (x7_2 - 16)) = j_ := ⟨_, rfl⟩
           replace H : (if 0 ≤ (ji37) then (if (ji37) < (64 : Int) then (if 0 ≤ (wrap64 (x7_2 - 7)) then (if (wrap64 (x7_2 - 7)) < (64 : Int) then (if 0 ≤ x7_2 then (if x7_2 < (64 : Int) then (hash_state_block.l1 k2 (x5_2.set (x7_2 : Int).toNat (((((rd x5_2 (ji37)) + (Go.bits .xor .u32 (Go.bits .xor .u32 t115 t117) ((rd x5_2 (ji27)) / 8))) + (rd x5_2 (wrap64 (x7_2 - 7)))) + (Go.bits .xor .u32 (Go.bits .xor .u32 t120 t122) ((rd x5_2 (ji32)) / 1024))) % 4294967296)) (wrap64 (x7_2 + 1)) a0_0 a0_1 a0_2 a0_3 a0_4 a0_5 a0_6 a0_7) else (none)) else (none)) else (none)) else (none)) else (none)) else (none)) = some (r1, r2, r3, r4, r5, r6, r7, r8) := by first | (rw [hji37] at H; exact H) | (simp only [hji37] at H ⊢; exact H)
           (try rw [hji37] at A30)
           (try rw [hji37] at A31)
           (try rw [hji37] at A35)
           (try rw [hji37] at A36)
           have hji37w : (IntKind.i64.wrap (x7_2 - 16)) = ji37 := (i64_w _).trans hji37
           by_cases c38 : 0 ≤ (ji37)
           ·rw [if_pos c38] at H
            have c38b0 : decide (0 ≤ (ji37)) = true := decide_eq_true c38
            clear c38
            by_cases c39 : (ji37) < (64 : Int)
            ·rw [if_pos c39] at H
             have c39b0 : decide ((ji37) < (64 : Int)) = true := decide_eq_true c39
             clear c39
             obtain ⟨ji40, hji40⟩ : ∃ j_ : Int, (wrap64 (x7_2 - 7)) = j_ := ⟨_, rfl⟩
             replace H : (if 0 ≤ (ji40) then (if (ji40) < (64 : Int) then (if 0 ≤ x7_2 then (if x7_2 < (64 : Int) then (hash_state_block.l1 k2 (x5_2.set (x7_2 : Int).toNat (((((rd x5_2 (ji37)) + (Go.bits .xor .u32 (Go.bits .xor .u32 t115 t117) ((rd x5_2 (ji27)) / 8))) + (rd x5_2 (ji40))) + (Go.bits .xor .u32 (Go.bits .xor .u32 t120 t122) ((rd x5_2 (ji32)) / 1024))) % 4294967296)) (wrap64 (x7_2 + 1)) a0_0 a0_1 a0_2 a0_3 a0_4 a0_5 a0_6 a0_7) else (none)) else (none)) else (none)) else (none)) = some (r1, r2, r3, r4, r5, r6, r7, r8) := by first | (rw [hji40] at H; exact H) | (simp only [hji40] at H ⊢; exact H)
             (try rw [hji40] at A30)
             (try rw [hji40] at A31)
             (try rw [hji40] at A35)
             (try rw [hji40] at A36)
             have hji40w : (IntKind.i64.wrap (x7_2 - 7)) = ji40 := (i64_w _).trans hji40
             by_cases c41 : 0 ≤ (ji40)
             ·rw [if_pos c41] at H
              have c41b0 : decide (0 ≤ (ji40)) = true := decide_eq_true c41
              clear c41
              by_cases c42 : (ji40) < (64 : Int)
              ·rw [if_pos c42] at H
               have c42b0 : decide ((ji40) < (64 : Int)) = true := decide_eq_true c42
               clear c42
               by_cases c43 : 0 ≤ x7_2
               ·rw [if_pos c43] at H
                have c43b0 : decide (0 ≤ x7_2) = true := decide_eq_true c43
                clear c43
                by_cases c44 : x7_2 < (64 : Int)
                ·rw [if_pos c44] at H
                 have c44b0 : decide (x7_2 < (64 : Int)) = true := decide_eq_true c44
                 clear c44
                 obtain ⟨y126, hy126⟩ : ∃ y_ : List Int, y_ = (x5_2.set (x7_2 : Int).toNat (((((rd x5_2 (ji37)) + (Go.bits .xor .u32 (Go.bits .xor .u32 t115 t117) ((rd x5_2 (ji27)) / 8))) + (rd x5_2 (ji40))) + (Go.bits .xor .u32 (Go.bits .xor .u32 t120 t122) ((rd x5_2 (ji32)) / 1024))) % 4294967296)) := ⟨_, rfl⟩
                 replace H : (hash_state_block.l1 k2 y126 (wrap64 (x7_2 + 1)) a0_0 a0_1 a0_2 a0_3 a0_4 a0_5 a0_6 a0_7) = some (r1, r2, r3, r4, r5, r6, r7, r8) := by first | (rw [hy126]; with_reducible exact H) | (have H2_ := (Option.bind_some _ _).symm.trans H; rw [hy126]; with_reducible exact H2_) | (have H2_ := (Option.bind_some _ _).symm.trans H; with_reducible exact H2_) | with_reducible exact H | (rw [hy126]; exact H) | exact H
                 have Ny126 := Aside0.mk hy126
                 clear hy126
                 have H' := Aside0.mk H
                 clear H
                 try go_wp2
                 have n0_ := Aside0.mk (Kd.R_drew HO_5.out)
                 have n1_ := Aside0.mk (blk_drew BK104.out)
                 have n2_ := Aside0.mk (blk_drew BK105.out)
                 have n3_ := Aside0.mk (below_drew1 HB.out)
                 clear HO_5
                 clear BK104
                 clear BK105
                 clear HB
                 have HO_5 := n0_
                 have BK104 := n1_
                 have BK105 := n2_
                 have HB := n3_
                 clear n0_ n1_ n2_ n3_
                 have p114 : 0 ≤ ((ji27) : Int) := of_decide_eq_true (by first | (with_reducible assumption) | assumption)
                 have q114 : (ji27) < (x5_2.length : Int) := (by have h_ : ((ji27) : Int) < ((64 : Int) : Int) := of_decide_eq_true (by first | (with_reducible assumption) | assumption); have e_ := (Kd.R_reads' HO_5.out).1; omega)
                 have ql114 : (((ji27) : Int) < ((64 : Int) : Int)) = True := eq_true (of_decide_eq_true (by first | (with_reducible assumption) | assumption))
                 obtain ⟨ad114, e114, hx114_0⟩ := Kd.at_int (Kd.R_reads' HO_5.out).2.2 (ji27) p114 q114
                 obtain rfl : (⟨go7, 0, none⟩ : Addr) = ad114 := (by injection e114)
                 (first | simp only [add_plain] at hx114_0 | simp only [add_at] at hx114_0 | simp only [Addr.add, Nat.zero_add] at hx114_0 | skip)
                 replace p114 := eq_true p114
                 replace q114 := eq_true q114
                 have p116 : 0 ≤ ((ji27) : Int) := of_decide_eq_true (by first | (with_reducible assumption) | assumption)
                 have q116 : (ji27) < (x5_2.length : Int) := (by have h_ : ((ji27) : Int) < ((64 : Int) : Int) := of_decide_eq_true (by first | (with_reducible assumption) | assumption); have e_ := (Kd.R_reads' HO_5.out).1; omega)
                 have ql116 : (((ji27) : Int) < ((64 : Int) : Int)) = True := eq_true (of_decide_eq_true (by first | (with_reducible assumption) | assumption))
                 obtain ⟨ad116, e116, hx116_0⟩ := Kd.at_int (Kd.R_reads' HO_5.out).2.2 (ji27) p116 q116
                 obtain rfl : (⟨go7, 0, none⟩ : Addr) = ad116 := (by injection e116)
                 (first | simp only [add_plain] at hx116_0 | simp only [add_at] at hx116_0 | simp only [Addr.add, Nat.zero_add] at hx116_0 | skip)
                 replace p116 := eq_true p116
                 replace q116 := eq_true q116
                 have p118 : 0 ≤ ((ji27) : Int) := of_decide_eq_true (by first | (with_reducible assumption) | assumption)
                 have q118 : (ji27) < (x5_2.length : Int) := (by have h_ : ((ji27) : Int) < ((64 : Int) : Int) := of_decide_eq_true (by first | (with_reducible assumption) | assumption); have e_ := (Kd.R_reads' HO_5.out).1; omega)
                 have ql118 : (((ji27) : Int) < ((64 : Int) : Int)) = True := eq_true (of_decide_eq_true (by first | (with_reducible assumption) | assumption))
                 obtain ⟨ad118, e118, hx118_0⟩ := Kd.at_int (Kd.R_reads' HO_5.out).2.2 (ji27) p118 q118
                 obtain rfl : (⟨go7, 0, none⟩ : Addr) = ad118 := (by injection e118)
                 (first | simp only [add_plain] at hx118_0 | simp only [add_at] at hx118_0 | simp only [Addr.add, Nat.zero_add] at hx118_0 | skip)
                 replace p118 := eq_true p118
                 replace q118 := eq_true q118
                 refine start_ (n := 18) (S := fun w' => w'.cell? ⟨go7, ((ji27)).toNat, none⟩ = some (.int .u32 (rd x5_2 (ji27))) ∧ w'.cell? ⟨go7, ((ji27)).toNat, none⟩ = some (.int .u32 (rd x5_2 (ji27))) ∧ w'.cell? ⟨go7, ((ji27)).toNat, none⟩ = some (.int .u32 (rd x5_2 (ji27)))) (ds := []) #[false, false, false, false, false, false, false, false, false, false, false, false, false, false, false, false, false, false] (by kernel_rfl) rfl rfl ⟨hx114_0, hx116_0, hx118_0⟩ (fun hHeld => ?_); refine with_tabW hash_state_block.tab9 hash_state_block.bits9 (fun HT_ HW_ => ?_)
                 generalize wr.drew = w46 at HO_5 BK104 BK105 HB hx114_0 hx116_0 hx118_0 hHeld ⊢
                 refine pure_ (i := 0) (N := some 62) (v := ?_) (a' := ?_) #[true, false, false, false, false, false, false, false, false, false, false, false, false, false, false, false, false, false] rfl rfl (any_of HT_.out (by kernel_rfl)) (fun _ _ _ h => h) (Or.inl ⟨by rfl, ?_⟩) ?_ ?_
                 rotate_left; (intro w'; go_simp; with_reducible rfl); rotate_left; (simp only [Act.put, List.setIfInBounds_toArray, List.set_cons_zero, List.set_cons_succ, i64_w, i32_w]; rfl)
                 refine pure_ (i := 1) (N := some 63) (v := ?_) (a' := ?_) #[true, true, false, false, false, false, false, false, false, false, false, false, false, false, false, false, false, false] rfl rfl (any_of HT_.out (by kernel_rfl)) (fun _ _ _ h => h) (Or.inl ⟨by rfl, ?_⟩) ?_ ?_
                 rotate_left; (intro w'; go_simp; with_reducible rfl); rotate_left; (simp only [Act.put, List.setIfInBounds_toArray, List.set_cons_zero, List.set_cons_succ, i64_w, i32_w]; rfl)
                 refine pure_ (i := 2) (N := some 64) (v := ?_) (a' := ?_) #[true, true, true, false, false, false, false, false, false, false, false, false, false, false, false, false, false, false] rfl rfl (any_of HT_.out (by kernel_rfl)) (fun _ _ _ h => h) (Or.inl ⟨by rfl, ?_⟩) ?_ ?_
                 rotate_left; (intro w'; go_simp; with_reducible rfl); rotate_left; (simp only [Act.put, List.setIfInBounds_toArray, List.set_cons_zero, List.set_cons_succ, i64_w, i32_w]; rfl)
                 refine pure_ (i := 5) (N := some 67) (v := ?_) (a' := ?_) #[true, true, true, false, false, true, false, false, false, false, false, false, false, false, false, false, false, false] rfl rfl (any_of HT_.out (by kernel_rfl)) (fun _ _ _ h => h) (Or.inl ⟨by rfl, ?_⟩) ?_ ?_
                 rotate_left; (intro w'; go_simp; with_reducible rfl); rotate_left; (simp only [Act.put, List.setIfInBounds_toArray, List.set_cons_zero, List.set_cons_succ, i64_w, i32_w]; rfl)
                 refine pure_ (i := 6) (N := some 68) (v := ?_) (a' := ?_) #[true, true, true, false, false, true, true, false, false, false, false, false, false, false, false, false, false, false] rfl rfl (any_of HT_.out (by kernel_rfl)) (fun _ _ _ h => h) (Or.inl ⟨by rfl, ?_⟩) ?_ ?_
                 rotate_left; (intro w'; go_simp; with_reducible rfl); rotate_left; (simp only [Act.put, List.setIfInBounds_toArray, List.set_cons_zero, List.set_cons_succ, i64_w, i32_w]; rfl)
                 refine pure_ (i := 7) (N := some 69) (v := ?_) (a' := ?_) #[true, true, true, false, false, true, true, true, false, false, false, false, false, false, false, false, false, false] rfl rfl (any_of HT_.out (by kernel_rfl)) (fun _ _ _ h => h) (Or.inl ⟨by rfl, ?_⟩) ?_ ?_
                 rotate_left; (intro w'; go_simp; with_reducible rfl); rotate_left; (simp only [Act.put, List.setIfInBounds_toArray, List.set_cons_zero, List.set_cons_succ, i64_w, i32_w]; rfl)
                 refine pure_ (i := 11) (N := some 73) (v := ?_) (a' := ?_) #[true, true, true, false, false, true, true, true, false, false, false, true, false, false, false, false, false, false] rfl rfl (any_of HT_.out (by kernel_rfl)) (fun _ _ _ h => h) (Or.inl ⟨by rfl, ?_⟩) ?_ ?_
                 rotate_left; (intro w'; go_simp; with_reducible rfl); rotate_left; (simp only [Act.put, List.setIfInBounds_toArray, List.set_cons_zero, List.set_cons_succ, i64_w, i32_w]; rfl)
                 refine pure_ (i := 12) (N := some 74) (v := ?_) (a' := ?_) #[true, true, true, false, false, true, true, true, false, false, false, true, true, false, false, false, false, false] rfl rfl (any_of HT_.out (by kernel_rfl)) (fun _ _ _ h => h) (Or.inl ⟨by rfl, ?_⟩) ?_ ?_
                 rotate_left; (intro w'; go_simp; with_reducible rfl); rotate_left; (simp only [Act.put, List.setIfInBounds_toArray, List.set_cons_zero, List.set_cons_succ, i64_w, i32_w]; rfl)
                 refine pure_ (i := 13) (N := some 75) (v := ?_) (a' := ?_) #[true, true, true, false, false, true, true, true, false, false, false, true, true, true, false, false, false, false] rfl rfl (any_of HT_.out (by kernel_rfl)) (fun _ _ _ h => h) (Or.inl ⟨by rfl, ?_⟩) ?_ ?_
                 rotate_left; (intro w'; go_simp; with_reducible rfl); rotate_left; (simp only [Act.put, List.setIfInBounds_toArray, List.set_cons_zero, List.set_cons_succ, i64_w, i32_w]; rfl)
                 refine take_ (i := 3) (N := some 65) (v := ?_) (a' := ?_) #[true, true, true, true, false, true, true, true, false, false, false, true, true, true, false, false, false, false] rfl rfl (take_ofW HT_.out HW_.out (by kernel_rfl)) (fun _ _ _ h => h) (Or.inl ⟨by rfl, ?_⟩) hHeld ?_ ?_
                 rotate_left; (rintro w' ⟨s0, s1, s2⟩; go_simp; with_reducible rfl); rotate_left; (simp only [Act.put, List.setIfInBounds_toArray, List.set_cons_zero, List.set_cons_succ, i64_w, i32_w]; rfl)
                 refine take_ (i := 8) (N := some 70) (v := ?_) (a' := ?_) #[true, true, true, true, false, true, true, true, true, false, false, true, true, true, false, false, false, false] rfl rfl (take_ofW HT_.out HW_.out (by kernel_rfl)) (fun _ _ _ h => h) (Or.inl ⟨by rfl, ?_⟩) hHeld ?_ ?_
                 rotate_left; (rintro w' ⟨s0, s1, s2⟩; go_simp; with_reducible rfl); rotate_left; (simp only [Act.put, List.setIfInBounds_toArray, List.set_cons_zero, List.set_cons_succ, i64_w, i32_w]; rfl)
                 refine take_ (i := 14) (N := some 76) (v := ?_) (a' := ?_) #[true, true, true, true, false, true, true, true, true, false, false, true, true, true, true, false, false, false] rfl rfl (take_ofW HT_.out HW_.out (by kernel_rfl)) (fun _ _ _ h => h) (Or.inl ⟨by rfl, ?_⟩) hHeld ?_ ?_
                 rotate_left; (rintro w' ⟨s0, s1, s2⟩; go_simp; with_reducible rfl); rotate_left; (simp only [Act.put, List.setIfInBounds_toArray, List.set_cons_zero, List.set_cons_succ, i64_w, i32_w]; rfl)
                 refine pure_ (i := 15) (N := some 77) (v := ?_) (a' := ?_) #[true, true, true, true, false, true, true, true, true, false, false, true, true, true, true, true, false, false] rfl rfl (any_of HT_.out (by kernel_rfl)) (fun _ _ _ h => h) (Or.inl ⟨by rfl, ?_⟩) ?_ ?_
                 rotate_left; (intro w'; go_simp; with_reducible rfl); rotate_left; (simp only [Act.put, List.setIfInBounds_toArray, List.set_cons_zero, List.set_cons_succ, i64_w, i32_w]; rfl)
                 refine one_ (i := 4) (N := some 66) #[true, true, true, true, true, true, true, true, true, false, false, true, true, true, true, true, false, false] rfl rfl (one_of HT_.out (by kernel_rfl)) (by decide) (fun K hK => ?_)
                 refine goes_ Try.func27 (by kernel_rfl) rfl #[.int .u32 (rd x5_2 (ji27)), .int .u64 7] (by rfl) rfl rfl (by (try simp only [List.map_toArray, List.map_cons, List.map_nil]); first | done | (simp only [hji27]; rfl) | rfl | (simp only [List.length_drop, List.length_take]; rfl)) ?_
                 with_reducible refine (hash_turn.calls (rd x5_2 (ji27)) 7 t115 _ A30.out).mono ?_
                 rintro e w' ⟨rfl, ⟨nd, rfl⟩⟩
                 refine ⟨_, rfl, ?_⟩
                 refine hK.out _ _ ⟨hHeld.1, hHeld.2.1, hHeld.2.2⟩ (fun hHeld => ?_)
                 clear hK K
                 refine norm_ (a' := ?_) ?_ ?_
                 rotate_left
                 ·show Act.put _ (some 66) _ = _
                  simp only [Act.put, List.setIfInBounds_toArray, List.set_cons_zero, List.set_cons_succ, i64_w, i32_w]
                  rfl
                 refine one_ (i := 9) (N := some 71) #[true, true, true, true, true, true, true, true, true, true, false, true, true, true, true, true, false, false] rfl rfl (one_of HT_.out (by kernel_rfl)) (by decide) (fun K hK => ?_)
                 refine goes_ Try.func27 (by kernel_rfl) rfl #[.int .u32 (rd x5_2 (ji27)), .int .u64 18] (by rfl) rfl rfl (by (try simp only [List.map_toArray, List.map_cons, List.map_nil]); first | done | (simp only [hji27]; rfl) | rfl | (simp only [List.length_drop, List.length_take]; rfl)) ?_
                 with_reducible refine (hash_turn.calls (rd x5_2 (ji27)) 18 t117 _ A31.out).mono ?_
                 rintro e w' ⟨rfl, ⟨nd, rfl⟩⟩
                 refine ⟨_, rfl, ?_⟩
                 refine hK.out _ _ ⟨hHeld.1, hHeld.2.1, hHeld.2.2⟩ (fun hHeld => ?_)
                 clear hK K
                 refine norm_ (a' := ?_) ?_ ?_
                 rotate_left
                 ·show Act.put _ (some 71) _ = _
                  simp only [Act.put, List.setIfInBounds_toArray, List.set_cons_zero, List.set_cons_succ, i64_w, i32_w]
                  rfl
                 refine pure_ (i := 10) (N := some 72) (v := ?_) (a' := ?_) #[true, true, true, true, true, true, true, true, true, true, true, true, true, true, true, true, false, false] rfl rfl (any_of HT_.out (by kernel_rfl)) (fun _ _ _ h => h) (Or.inl ⟨by rfl, ?_⟩) ?_ ?_
                 rotate_left; (intro w'; go_simp; with_reducible rfl); rotate_left; (simp only [Act.put, List.setIfInBounds_toArray, List.set_cons_zero, List.set_cons_succ, i64_w, i32_w]; rfl)
                 refine pure_ (i := 16) (N := some 78) (v := ?_) (a' := ?_) #[true, true, true, true, true, true, true, true, true, true, true, true, true, true, true, true, true, false] rfl rfl (any_of HT_.out (by kernel_rfl)) (fun _ _ _ h => h) (Or.inl ⟨by rfl, ?_⟩) ?_ ?_
                 rotate_left; (intro w'; go_simp; with_reducible rfl); rotate_left; (simp only [Act.put, List.setIfInBounds_toArray, List.set_cons_zero, List.set_cons_succ, i64_w, i32_w]; rfl)
                 refine pure_ (i := 17) (N := some 8) (v := ?_) (a' := ?_) #[true, true, true, true, true, true, true, true, true, true, true, true, true, true, true, true, true, true] rfl rfl (any_of HT_.out (by kernel_rfl)) (fun _ _ _ h => h) (Or.inl ⟨by rfl, ?_⟩) ?_ ?_
                 rotate_left; (intro w'; go_simp; with_reducible rfl); rotate_left; (simp only [Act.put, List.setIfInBounds_toArray, List.set_cons_zero, List.set_cons_succ, i64_w, i32_w]; rfl)
                 refine done_ (done_of HT_.out (by kernel_rfl)) ?_
                 try go_wp2
                 (try (rw [drewN_self w46]; generalize hq_ : World.drewN w46 _ = w46; have n0_ : Aside0 (Kd.R (Kd.int .u32) 52 w46 w.heap.size (fun _ => True) (.slice (some ⟨go7, 0, none⟩) 64 64) x5_2) := ⟨by rw [← hq_]; exact (by (with_reducible repeat (first | apply Kd.R_alloc | apply Kd.R_drewN | apply Kd.R_drew)); exact HO_5.out)⟩; have n1_ : Aside0 (w46.heap[gb104]? = some (.cells #[.int .u32 a0_0, .int .u32 a0_1, .int .u32 a0_2, .int .u32 a0_3, .int .u32 a0_4, .int .u32 a0_5, .int .u32 a0_6, .int .u32 a0_7] 37 (0, 0))) := ⟨by rw [← hq_]; exact (by (with_reducible repeat (first | refine blk_drewN ?_ _ | refine blk_drew ?_ | refine blk_alloc ?_ _)); exact BK104.out)⟩; have n2_ : Aside0 (w46.heap[gb105]? = some (.cells #[.int .u32 0, .int .u32 0, .int .u32 0, .int .u32 0, .int .u32 0, .int .u32 0, .int .u32 0, .int .u32 0] 37 (0, 0))) := ⟨by rw [← hq_]; exact (by (with_reducible repeat (first | refine blk_drewN ?_ _ | refine blk_drew ?_ | refine blk_alloc ?_ _)); exact BK105.out)⟩; have n3_ : Aside0 (Below w.heap.size w w46) := ⟨by rw [← hq_]; exact (by repeat (first | (with_reducible first | exact HB.out | apply below_alloc | apply pw_below_drewN | apply below_drew1 | refine below_set ?_ GE104.out | refine below_set ?_ GE105.out) | exact HB.out))⟩; clear HO_5 BK104 BK105 HB hq_; have HO_5 := n0_; have BK104 := n1_; have BK105 := n2_; have HB := n3_; clear n0_ n1_ n2_ n3_))
                 have n0_ := Aside0.mk (Kd.R_drew HO_5.out)
                 have n1_ := Aside0.mk (blk_drew BK104.out)
                 have n2_ := Aside0.mk (blk_drew BK105.out)
                 have n3_ := Aside0.mk (below_drew1 HB.out)
                 clear HO_5
                 clear BK104
                 clear BK105
                 clear HB
                 have HO_5 := n0_
                 have BK104 := n1_
                 have BK105 := n2_
                 have HB := n3_
                 clear n0_ n1_ n2_ n3_
                 have p119 : 0 ≤ ((ji32) : Int) := of_decide_eq_true (by first | (with_reducible assumption) | assumption)
                 have q119 : (ji32) < (x5_2.length : Int) := (by have h_ : ((ji32) : Int) < ((64 : Int) : Int) := of_decide_eq_true (by first | (with_reducible assumption) | assumption); have e_ := (Kd.R_reads' HO_5.out).1; omega)
                 have ql119 : (((ji32) : Int) < ((64 : Int) : Int)) = True := eq_true (of_decide_eq_true (by first | (with_reducible assumption) | assumption))
                 obtain ⟨ad119, e119, hx119_0⟩ := Kd.at_int (Kd.R_reads' HO_5.out).2.2 (ji32) p119 q119
                 obtain rfl : (⟨go7, 0, none⟩ : Addr) = ad119 := (by injection e119)
                 (first | simp only [add_plain] at hx119_0 | simp only [add_at] at hx119_0 | simp only [Addr.add, Nat.zero_add] at hx119_0 | skip)
                 replace p119 := eq_true p119
                 replace q119 := eq_true q119
                 have p121 : 0 ≤ ((ji32) : Int) := of_decide_eq_true (by first | (with_reducible assumption) | assumption)
                 have q121 : (ji32) < (x5_2.length : Int) := (by have h_ : ((ji32) : Int) < ((64 : Int) : Int) := of_decide_eq_true (by first | (with_reducible assumption) | assumption); have e_ := (Kd.R_reads' HO_5.out).1; omega)
                 have ql121 : (((ji32) : Int) < ((64 : Int) : Int)) = True := eq_true (of_decide_eq_true (by first | (with_reducible assumption) | assumption))
                 obtain ⟨ad121, e121, hx121_0⟩ := Kd.at_int (Kd.R_reads' HO_5.out).2.2 (ji32) p121 q121
                 obtain rfl : (⟨go7, 0, none⟩ : Addr) = ad121 := (by injection e121)
                 (first | simp only [add_plain] at hx121_0 | simp only [add_at] at hx121_0 | simp only [Addr.add, Nat.zero_add] at hx121_0 | skip)
                 replace p121 := eq_true p121
                 replace q121 := eq_true q121
                 have p123 : 0 ≤ ((ji32) : Int) := of_decide_eq_true (by first | (with_reducible assumption) | assumption)
                 have q123 : (ji32) < (x5_2.length : Int) := (by have h_ : ((ji32) : Int) < ((64 : Int) : Int) := of_decide_eq_true (by first | (with_reducible assumption) | assumption); have e_ := (Kd.R_reads' HO_5.out).1; omega)
                 have ql123 : (((ji32) : Int) < ((64 : Int) : Int)) = True := eq_true (of_decide_eq_true (by first | (with_reducible assumption) | assumption))
                 obtain ⟨ad123, e123, hx123_0⟩ := Kd.at_int (Kd.R_reads' HO_5.out).2.2 (ji32) p123 q123
                 obtain rfl : (⟨go7, 0, none⟩ : Addr) = ad123 := (by injection e123)
                 (first | simp only [add_plain] at hx123_0 | simp only [add_at] at hx123_0 | simp only [Addr.add, Nat.zero_add] at hx123_0 | skip)
                 replace p123 := eq_true p123
                 replace q123 := eq_true q123
                 refine start_ (n := 18) (S := fun w' => w'.cell? ⟨go7, ((ji32)).toNat, none⟩ = some (.int .u32 (rd x5_2 (ji32))) ∧ w'.cell? ⟨go7, ((ji32)).toNat, none⟩ = some (.int .u32 (rd x5_2 (ji32))) ∧ w'.cell? ⟨go7, ((ji32)).toNat, none⟩ = some (.int .u32 (rd x5_2 (ji32)))) (ds := []) #[false, false, false, false, false, false, false, false, false, false, false, false, false, false, false, false, false, false] (by kernel_rfl) rfl rfl ⟨hx119_0, hx121_0, hx123_0⟩ (fun hHeld => ?_); refine with_tabW hash_state_block.tab10 hash_state_block.bits10 (fun HT_ HW_ => ?_)
                 generalize w46.drew = w47 at HO_5 BK104 BK105 HB hx119_0 hx121_0 hx123_0 hHeld ⊢
                 refine pure_ (i := 0) (N := some 79) (v := ?_) (a' := ?_) #[true, false, false, false, false, false, false, false, false, false, false, false, false, false, false, false, false, false] rfl rfl (any_of HT_.out (by kernel_rfl)) (fun _ _ _ h => h) (Or.inl ⟨by rfl, ?_⟩) ?_ ?_
                 rotate_left; (intro w'; go_simp; with_reducible rfl); rotate_left; (simp only [Act.put, List.setIfInBounds_toArray, List.set_cons_zero, List.set_cons_succ, i64_w, i32_w]; rfl)
                 refine pure_ (i := 1) (N := some 80) (v := ?_) (a' := ?_) #[true, true, false, false, false, false, false, false, false, false, false, false, false, false, false, false, false, false] rfl rfl (any_of HT_.out (by kernel_rfl)) (fun _ _ _ h => h) (Or.inl ⟨by rfl, ?_⟩) ?_ ?_
                 rotate_left; (intro w'; go_simp; with_reducible rfl); rotate_left; (simp only [Act.put, List.setIfInBounds_toArray, List.set_cons_zero, List.set_cons_succ, i64_w, i32_w]; rfl)
                 refine pure_ (i := 2) (N := some 81) (v := ?_) (a' := ?_) #[true, true, true, false, false, false, false, false, false, false, false, false, false, false, false, false, false, false] rfl rfl (any_of HT_.out (by kernel_rfl)) (fun _ _ _ h => h) (Or.inl ⟨by rfl, ?_⟩) ?_ ?_
                 rotate_left; (intro w'; go_simp; with_reducible rfl); rotate_left; (simp only [Act.put, List.setIfInBounds_toArray, List.set_cons_zero, List.set_cons_succ, i64_w, i32_w]; rfl)
                 refine pure_ (i := 5) (N := some 84) (v := ?_) (a' := ?_) #[true, true, true, false, false, true, false, false, false, false, false, false, false, false, false, false, false, false] rfl rfl (any_of HT_.out (by kernel_rfl)) (fun _ _ _ h => h) (Or.inl ⟨by rfl, ?_⟩) ?_ ?_
                 rotate_left; (intro w'; go_simp; with_reducible rfl); rotate_left; (simp only [Act.put, List.setIfInBounds_toArray, List.set_cons_zero, List.set_cons_succ, i64_w, i32_w]; rfl)
                 refine pure_ (i := 6) (N := some 85) (v := ?_) (a' := ?_) #[true, true, true, false, false, true, true, false, false, false, false, false, false, false, false, false, false, false] rfl rfl (any_of HT_.out (by kernel_rfl)) (fun _ _ _ h => h) (Or.inl ⟨by rfl, ?_⟩) ?_ ?_
                 rotate_left; (intro w'; go_simp; with_reducible rfl); rotate_left; (simp only [Act.put, List.setIfInBounds_toArray, List.set_cons_zero, List.set_cons_succ, i64_w, i32_w]; rfl)
                 refine pure_ (i := 7) (N := some 86) (v := ?_) (a' := ?_) #[true, true, true, false, false, true, true, true, false, false, false, false, false, false, false, false, false, false] rfl rfl (any_of HT_.out (by kernel_rfl)) (fun _ _ _ h => h) (Or.inl ⟨by rfl, ?_⟩) ?_ ?_
                 rotate_left; (intro w'; go_simp; with_reducible rfl); rotate_left; (simp only [Act.put, List.setIfInBounds_toArray, List.set_cons_zero, List.set_cons_succ, i64_w, i32_w]; rfl)
                 refine pure_ (i := 11) (N := some 90) (v := ?_) (a' := ?_) #[true, true, true, false, false, true, true, true, false, false, false, true, false, false, false, false, false, false] rfl rfl (any_of HT_.out (by kernel_rfl)) (fun _ _ _ h => h) (Or.inl ⟨by rfl, ?_⟩) ?_ ?_
                 rotate_left; (intro w'; go_simp; with_reducible rfl); rotate_left; (simp only [Act.put, List.setIfInBounds_toArray, List.set_cons_zero, List.set_cons_succ, i64_w, i32_w]; rfl)
                 refine pure_ (i := 12) (N := some 91) (v := ?_) (a' := ?_) #[true, true, true, false, false, true, true, true, false, false, false, true, true, false, false, false, false, false] rfl rfl (any_of HT_.out (by kernel_rfl)) (fun _ _ _ h => h) (Or.inl ⟨by rfl, ?_⟩) ?_ ?_
                 rotate_left; (intro w'; go_simp; with_reducible rfl); rotate_left; (simp only [Act.put, List.setIfInBounds_toArray, List.set_cons_zero, List.set_cons_succ, i64_w, i32_w]; rfl)
                 refine pure_ (i := 13) (N := some 92) (v := ?_) (a' := ?_) #[true, true, true, false, false, true, true, true, false, false, false, true, true, true, false, false, false, false] rfl rfl (any_of HT_.out (by kernel_rfl)) (fun _ _ _ h => h) (Or.inl ⟨by rfl, ?_⟩) ?_ ?_
                 rotate_left; (intro w'; go_simp; with_reducible rfl); rotate_left; (simp only [Act.put, List.setIfInBounds_toArray, List.set_cons_zero, List.set_cons_succ, i64_w, i32_w]; rfl)
                 refine take_ (i := 3) (N := some 82) (v := ?_) (a' := ?_) #[true, true, true, true, false, true, true, true, false, false, false, true, true, true, false, false, false, false] rfl rfl (take_ofW HT_.out HW_.out (by kernel_rfl)) (fun _ _ _ h => h) (Or.inl ⟨by rfl, ?_⟩) hHeld ?_ ?_
                 rotate_left; (rintro w' ⟨s0, s1, s2⟩; go_simp; with_reducible rfl); rotate_left; (simp only [Act.put, List.setIfInBounds_toArray, List.set_cons_zero, List.set_cons_succ, i64_w, i32_w]; rfl)
                 refine take_ (i := 8) (N := some 87) (v := ?_) (a' := ?_) #[true, true, true, true, false, true, true, true, true, false, false, true, true, true, false, false, false, false] rfl rfl (take_ofW HT_.out HW_.out (by kernel_rfl)) (fun _ _ _ h => h) (Or.inl ⟨by rfl, ?_⟩) hHeld ?_ ?_
                 rotate_left; (rintro w' ⟨s0, s1, s2⟩; go_simp; with_reducible rfl); rotate_left; (simp only [Act.put, List.setIfInBounds_toArray, List.set_cons_zero, List.set_cons_succ, i64_w, i32_w]; rfl)
                 refine take_ (i := 14) (N := some 93) (v := ?_) (a' := ?_) #[true, true, true, true, false, true, true, true, true, false, false, true, true, true, true, false, false, false] rfl rfl (take_ofW HT_.out HW_.out (by kernel_rfl)) (fun _ _ _ h => h) (Or.inl ⟨by rfl, ?_⟩) hHeld ?_ ?_
                 rotate_left; (rintro w' ⟨s0, s1, s2⟩; go_simp; with_reducible rfl); rotate_left; (simp only [Act.put, List.setIfInBounds_toArray, List.set_cons_zero, List.set_cons_succ, i64_w, i32_w]; rfl)
                 refine pure_ (i := 15) (N := some 94) (v := ?_) (a' := ?_) #[true, true, true, true, false, true, true, true, true, false, false, true, true, true, true, true, false, false] rfl rfl (any_of HT_.out (by kernel_rfl)) (fun _ _ _ h => h) (Or.inl ⟨by rfl, ?_⟩) ?_ ?_
                 rotate_left; (intro w'; go_simp; with_reducible rfl); rotate_left; (simp only [Act.put, List.setIfInBounds_toArray, List.set_cons_zero, List.set_cons_succ, i64_w, i32_w]; rfl)
                 refine one_ (i := 4) (N := some 83) #[true, true, true, true, true, true, true, true, true, false, false, true, true, true, true, true, false, false] rfl rfl (one_of HT_.out (by kernel_rfl)) (by decide) (fun K hK => ?_)
                 refine goes_ Try.func27 (by kernel_rfl) rfl #[.int .u32 (rd x5_2 (ji32)), .int .u64 17] (by rfl) rfl rfl (by (try simp only [List.map_toArray, List.map_cons, List.map_nil]); first | done | (simp only [hji32]; rfl) | rfl | (simp only [List.length_drop, List.length_take]; rfl)) ?_
                 with_reducible refine (hash_turn.calls (rd x5_2 (ji32)) 17 t120 _ A35.out).mono ?_
                 rintro e w' ⟨rfl, ⟨nd, rfl⟩⟩
                 refine ⟨_, rfl, ?_⟩
                 refine hK.out _ _ ⟨hHeld.1, hHeld.2.1, hHeld.2.2⟩ (fun hHeld => ?_)
                 clear hK K
                 refine norm_ (a' := ?_) ?_ ?_
                 rotate_left
                 ·show Act.put _ (some 83) _ = _
                  simp only [Act.put, List.setIfInBounds_toArray, List.set_cons_zero, List.set_cons_succ, i64_w, i32_w]
                  rfl
                 refine one_ (i := 9) (N := some 88) #[true, true, true, true, true, true, true, true, true, true, false, true, true, true, true, true, false, false] rfl rfl (one_of HT_.out (by kernel_rfl)) (by decide) (fun K hK => ?_)
                 refine goes_ Try.func27 (by kernel_rfl) rfl #[.int .u32 (rd x5_2 (ji32)), .int .u64 19] (by rfl) rfl rfl (by (try simp only [List.map_toArray, List.map_cons, List.map_nil]); first | done | (simp only [hji32]; rfl) | rfl | (simp only [List.length_drop, List.length_take]; rfl)) ?_
                 with_reducible refine (hash_turn.calls (rd x5_2 (ji32)) 19 t122 _ A36.out).mono ?_
                 rintro e w' ⟨rfl, ⟨nd, rfl⟩⟩
                 refine ⟨_, rfl, ?_⟩
                 refine hK.out _ _ ⟨hHeld.1, hHeld.2.1, hHeld.2.2⟩ (fun hHeld => ?_)
                 clear hK K
                 refine norm_ (a' := ?_) ?_ ?_
                 rotate_left
                 ·show Act.put _ (some 88) _ = _
                  simp only [Act.put, List.setIfInBounds_toArray, List.set_cons_zero, List.set_cons_succ, i64_w, i32_w]
                  rfl
                 refine pure_ (i := 10) (N := some 89) (v := ?_) (a' := ?_) #[true, true, true, true, true, true, true, true, true, true, true, true, true, true, true, true, false, false] rfl rfl (any_of HT_.out (by kernel_rfl)) (fun _ _ _ h => h) (Or.inl ⟨by rfl, ?_⟩) ?_ ?_
                 rotate_left; (intro w'; go_simp; with_reducible rfl); rotate_left; (simp only [Act.put, List.setIfInBounds_toArray, List.set_cons_zero, List.set_cons_succ, i64_w, i32_w]; rfl)
                 refine pure_ (i := 16) (N := some 95) (v := ?_) (a' := ?_) #[true, true, true, true, true, true, true, true, true, true, true, true, true, true, true, true, true, false] rfl rfl (any_of HT_.out (by kernel_rfl)) (fun _ _ _ h => h) (Or.inl ⟨by rfl, ?_⟩) ?_ ?_
                 rotate_left; (intro w'; go_simp; with_reducible rfl); rotate_left; (simp only [Act.put, List.setIfInBounds_toArray, List.set_cons_zero, List.set_cons_succ, i64_w, i32_w]; rfl)
                 refine pure_ (i := 17) (N := some 9) (v := ?_) (a' := ?_) #[true, true, true, true, true, true, true, true, true, true, true, true, true, true, true, true, true, true] rfl rfl (any_of HT_.out (by kernel_rfl)) (fun _ _ _ h => h) (Or.inl ⟨by rfl, ?_⟩) ?_ ?_
                 rotate_left; (intro w'; go_simp; with_reducible rfl); rotate_left; (simp only [Act.put, List.setIfInBounds_toArray, List.set_cons_zero, List.set_cons_succ, i64_w, i32_w]; rfl)
                 refine done_ (done_of HT_.out (by kernel_rfl)) ?_
                 try go_wp2
                 (try (rw [drewN_self w47]; generalize hq_ : World.drewN w47 _ = w47; have n0_ : Aside0 (Kd.R (Kd.int .u32) 52 w47 w.heap.size (fun _ => True) (.slice (some ⟨go7, 0, none⟩) 64 64) x5_2) := ⟨by rw [← hq_]; exact (by (with_reducible repeat (first | apply Kd.R_alloc | apply Kd.R_drewN | apply Kd.R_drew)); exact HO_5.out)⟩; have n1_ : Aside0 (w47.heap[gb104]? = some (.cells #[.int .u32 a0_0, .int .u32 a0_1, .int .u32 a0_2, .int .u32 a0_3, .int .u32 a0_4, .int .u32 a0_5, .int .u32 a0_6, .int .u32 a0_7] 37 (0, 0))) := ⟨by rw [← hq_]; exact (by (with_reducible repeat (first | refine blk_drewN ?_ _ | refine blk_drew ?_ | refine blk_alloc ?_ _)); exact BK104.out)⟩; have n2_ : Aside0 (w47.heap[gb105]? = some (.cells #[.int .u32 0, .int .u32 0, .int .u32 0, .int .u32 0, .int .u32 0, .int .u32 0, .int .u32 0, .int .u32 0] 37 (0, 0))) := ⟨by rw [← hq_]; exact (by (with_reducible repeat (first | refine blk_drewN ?_ _ | refine blk_drew ?_ | refine blk_alloc ?_ _)); exact BK105.out)⟩; have n3_ : Aside0 (Below w.heap.size w w47) := ⟨by rw [← hq_]; exact (by repeat (first | (with_reducible first | exact HB.out | apply below_alloc | apply pw_below_drewN | apply below_drew1 | refine below_set ?_ GE104.out | refine below_set ?_ GE105.out) | exact HB.out))⟩; clear HO_5 BK104 BK105 HB hq_; have HO_5 := n0_; have BK104 := n1_; have BK105 := n2_; have HB := n3_; clear n0_ n1_ n2_ n3_))
                 have n0_ := Aside0.mk (Kd.R_drew HO_5.out)
                 have n1_ := Aside0.mk (blk_drew BK104.out)
                 have n2_ := Aside0.mk (blk_drew BK105.out)
                 have n3_ := Aside0.mk (below_drew1 HB.out)
                 clear HO_5
                 clear BK104
                 clear BK105
                 clear HB
                 have HO_5 := n0_
                 have BK104 := n1_
                 have BK105 := n2_
                 have HB := n3_
                 clear n0_ n1_ n2_ n3_
                 have p124 : 0 ≤ ((ji37) : Int) := of_decide_eq_true (by first | (with_reducible assumption) | assumption)
                 have q124 : (ji37) < (x5_2.length : Int) := (by have h_ : ((ji37) : Int) < ((64 : Int) : Int) := of_decide_eq_true (by first | (with_reducible assumption) | assumption); have e_ := (Kd.R_reads' HO_5.out).1; omega)
                 have ql124 : (((ji37) : Int) < ((64 : Int) : Int)) = True := eq_true (of_decide_eq_true (by first | (with_reducible assumption) | assumption))
                 obtain ⟨ad124, e124, hx124_0⟩ := Kd.at_int (Kd.R_reads' HO_5.out).2.2 (ji37) p124 q124
                 obtain rfl : (⟨go7, 0, none⟩ : Addr) = ad124 := (by injection e124)
                 (first | simp only [add_plain] at hx124_0 | simp only [add_at] at hx124_0 | simp only [Addr.add, Nat.zero_add] at hx124_0 | skip)
                 replace p124 := eq_true p124
                 replace q124 := eq_true q124
                 have p125 : 0 ≤ ((ji40) : Int) := of_decide_eq_true (by first | (with_reducible assumption) | assumption)
                 have q125 : (ji40) < (x5_2.length : Int) := (by have h_ : ((ji40) : Int) < ((64 : Int) : Int) := of_decide_eq_true (by first | (with_reducible assumption) | assumption); have e_ := (Kd.R_reads' HO_5.out).1; omega)
                 have ql125 : (((ji40) : Int) < ((64 : Int) : Int)) = True := eq_true (of_decide_eq_true (by first | (with_reducible assumption) | assumption))
                 obtain ⟨ad125, e125, hx125_0⟩ := Kd.at_int (Kd.R_reads' HO_5.out).2.2 (ji40) p125 q125
                 obtain rfl : (⟨go7, 0, none⟩ : Addr) = ad125 := (by injection e125)
                 (first | simp only [add_plain] at hx125_0 | simp only [add_at] at hx125_0 | simp only [Addr.add, Nat.zero_add] at hx125_0 | skip)
                 replace p125 := eq_true p125
                 replace q125 := eq_true q125
                 have p45 : 0 ≤ (x7_2 : Int) := of_decide_eq_true (by first | (with_reducible assumption) | assumption)
                 have q45 : (x7_2 : Int) < ((64 : Int) : Int) := of_decide_eq_true (by first | (with_reducible assumption) | assumption)
                 obtain ⟨cl45, HG45⟩ := Ext.arr_typed HO_5.out (by decide)
                 have GG7 := Aside0.mk HG45
                 clear HG45
                 obtain ⟨hx45_0, hf45_0⟩ := Kd.R_celln 0 HO_5.out (x7_2 : Int) p45 q45
                 replace p45 := eq_true p45
                 replace q45 := eq_true q45
                 have HP49 := Kd.R_putn HO_5.out (x7_2 : Int) (((((rd x5_2 (ji37)) + (Go.bits .xor .u32 (Go.bits .xor .u32 t115 t117) ((rd x5_2 (ji27)) / 8))) + (rd x5_2 (ji40))) + (Go.bits .xor .u32 (Go.bits .xor .u32 t120 t122) ((rd x5_2 (ji32)) / 1024))) % 4294967296)
                 rw [← Ny126.out] at HP49
                 have HQ49 := Aside0.mk HP49
                 clear HP49
                 refine start_ (n := 16) (S := fun w' => w'.cell? ⟨go7, ((ji37)).toNat, none⟩ = some (.int .u32 (rd x5_2 (ji37))) ∧ w'.cell? ⟨go7, ((ji40)).toNat, none⟩ = some (.int .u32 (rd x5_2 (ji40)))) (ds := [15]) #[false, false, false, false, false, false, false, false, false, false, false, false, false, false, false, false] (by kernel_rfl) rfl rfl ⟨hx124_0, hx125_0⟩ (fun hHeld => ?_); refine with_tabW hash_state_block.tab11 hash_state_block.bits11 (fun HT_ HW_ => ?_)
                 generalize w47.drew = w48 at HO_5 BK104 BK105 HB GG7 HQ49 hf45_0 hx124_0 hx125_0 hx45_0 hHeld ⊢
                 refine pure_ (i := 0) (N := some 96) (v := ?_) (a' := ?_) #[true, false, false, false, false, false, false, false, false, false, false, false, false, false, false, false] rfl rfl (any_of HT_.out (by kernel_rfl)) (fun _ _ _ h => h) (Or.inl ⟨by rfl, ?_⟩) ?_ ?_
                 rotate_left; (intro w'; go_simp; with_reducible rfl); rotate_left; (simp only [Act.put, List.setIfInBounds_toArray, List.set_cons_zero, List.set_cons_succ, i64_w, i32_w]; rfl)
                 refine pure_ (i := 1) (N := some 97) (v := ?_) (a' := ?_) #[true, true, false, false, false, false, false, false, false, false, false, false, false, false, false, false] rfl rfl (any_of HT_.out (by kernel_rfl)) (fun _ _ _ h => h) (Or.inl ⟨by rfl, ?_⟩) ?_ ?_
                 rotate_left; (intro w'; go_simp; with_reducible rfl); rotate_left; (simp only [Act.put, List.setIfInBounds_toArray, List.set_cons_zero, List.set_cons_succ, i64_w, i32_w]; rfl)
                 refine pure_ (i := 2) (N := some 98) (v := ?_) (a' := ?_) #[true, true, true, false, false, false, false, false, false, false, false, false, false, false, false, false] rfl rfl (any_of HT_.out (by kernel_rfl)) (fun _ _ _ h => h) (Or.inl ⟨by rfl, ?_⟩) ?_ ?_
                 rotate_left; (intro w'; go_simp; with_reducible rfl); rotate_left; (simp only [Act.put, List.setIfInBounds_toArray, List.set_cons_zero, List.set_cons_succ, i64_w, i32_w]; rfl)
                 refine pure_ (i := 3) (N := some 99) (v := ?_) (a' := ?_) #[true, true, true, true, false, false, false, false, false, false, false, false, false, false, false, false] rfl rfl (any_of HT_.out (by kernel_rfl)) (fun _ _ _ h => h) (Or.inl ⟨by rfl, ?_⟩) ?_ ?_
                 rotate_left; (intro w'; go_simp; with_reducible rfl); rotate_left; (simp only [Act.put, List.setIfInBounds_toArray, List.set_cons_zero, List.set_cons_succ, i64_w, i32_w]; rfl)
                 refine pure_ (i := 5) (N := some 101) (v := ?_) (a' := ?_) #[true, true, true, true, false, true, false, false, false, false, false, false, false, false, false, false] rfl rfl (any_of HT_.out (by kernel_rfl)) (fun _ _ _ h => h) (Or.inl ⟨by rfl, ?_⟩) ?_ ?_
                 rotate_left; (intro w'; go_simp; with_reducible rfl); rotate_left; (simp only [Act.put, List.setIfInBounds_toArray, List.set_cons_zero, List.set_cons_succ, i64_w, i32_w]; rfl)
                 refine pure_ (i := 7) (N := some 103) (v := ?_) (a' := ?_) #[true, true, true, true, false, true, false, true, false, false, false, false, false, false, false, false] rfl rfl (any_of HT_.out (by kernel_rfl)) (fun _ _ _ h => h) (Or.inl ⟨by rfl, ?_⟩) ?_ ?_
                 rotate_left; (intro w'; go_simp; with_reducible rfl); rotate_left; (simp only [Act.put, List.setIfInBounds_toArray, List.set_cons_zero, List.set_cons_succ, i64_w, i32_w]; rfl)
                 refine pure_ (i := 8) (N := some 104) (v := ?_) (a' := ?_) #[true, true, true, true, false, true, false, true, true, false, false, false, false, false, false, false] rfl rfl (any_of HT_.out (by kernel_rfl)) (fun _ _ _ h => h) (Or.inl ⟨by rfl, ?_⟩) ?_ ?_
                 rotate_left; (intro w'; go_simp; with_reducible rfl); rotate_left; (simp only [Act.put, List.setIfInBounds_toArray, List.set_cons_zero, List.set_cons_succ, i64_w, i32_w]; rfl)
                 refine pure_ (i := 9) (N := some 105) (v := ?_) (a' := ?_) #[true, true, true, true, false, true, false, true, true, true, false, false, false, false, false, false] rfl rfl (any_of HT_.out (by kernel_rfl)) (fun _ _ _ h => h) (Or.inl ⟨by rfl, ?_⟩) ?_ ?_
                 rotate_left; (intro w'; go_simp; with_reducible rfl); rotate_left; (simp only [Act.put, List.setIfInBounds_toArray, List.set_cons_zero, List.set_cons_succ, i64_w, i32_w]; rfl)
                 refine pure_ (i := 12) (N := some 108) (v := ?_) (a' := ?_) #[true, true, true, true, false, true, false, true, true, true, false, false, true, false, false, false] rfl rfl (any_of HT_.out (by kernel_rfl)) (fun _ _ _ h => h) (Or.inl ⟨by rfl, ?_⟩) ?_ ?_
                 rotate_left; (intro w'; go_simp; with_reducible rfl); rotate_left; (simp only [Act.put, List.setIfInBounds_toArray, List.set_cons_zero, List.set_cons_succ, i64_w, i32_w]; rfl)
                 refine take_ (i := 4) (N := some 100) (v := ?_) (a' := ?_) #[true, true, true, true, true, true, false, true, true, true, false, false, true, false, false, false] rfl rfl (take_ofW HT_.out HW_.out (by kernel_rfl)) (fun _ _ _ h => h) (Or.inl ⟨by rfl, ?_⟩) hHeld ?_ ?_
                 rotate_left; (rintro w' ⟨s0, s1⟩; go_simp; with_reducible rfl); rotate_left; (simp only [Act.put, List.setIfInBounds_toArray, List.set_cons_zero, List.set_cons_succ, i64_w, i32_w]; rfl)
                 refine pure_ (i := 6) (N := some 102) (v := ?_) (a' := ?_) #[true, true, true, true, true, true, true, true, true, true, false, false, true, false, false, false] rfl rfl (any_of HT_.out (by kernel_rfl)) (fun _ _ _ h => h) (Or.inl ⟨by rfl, ?_⟩) ?_ ?_
                 rotate_left; (intro w'; go_simp; with_reducible rfl); rotate_left; (simp only [Act.put, List.setIfInBounds_toArray, List.set_cons_zero, List.set_cons_succ, i64_w, i32_w]; rfl)
                 refine take_ (i := 10) (N := some 106) (v := ?_) (a' := ?_) #[true, true, true, true, true, true, true, true, true, true, true, false, true, false, false, false] rfl rfl (take_ofW HT_.out HW_.out (by kernel_rfl)) (fun _ _ _ h => h) (Or.inl ⟨by rfl, ?_⟩) hHeld ?_ ?_
                 rotate_left; (rintro w' ⟨s0, s1⟩; go_simp; with_reducible rfl); rotate_left; (simp only [Act.put, List.setIfInBounds_toArray, List.set_cons_zero, List.set_cons_succ, i64_w, i32_w]; rfl)
                 refine pure_ (i := 11) (N := some 107) (v := ?_) (a' := ?_) #[true, true, true, true, true, true, true, true, true, true, true, true, true, false, false, false] rfl rfl (any_of HT_.out (by kernel_rfl)) (fun _ _ _ h => h) (Or.inl ⟨by rfl, ?_⟩) ?_ ?_
                 rotate_left; (intro w'; go_simp; with_reducible rfl); rotate_left; (simp only [Act.put, List.setIfInBounds_toArray, List.set_cons_zero, List.set_cons_succ, i64_w, i32_w]; rfl)
                 refine pure_ (i := 13) (N := some 109) (v := ?_) (a' := ?_) #[true, true, true, true, true, true, true, true, true, true, true, true, true, true, false, false] rfl rfl (any_of HT_.out (by kernel_rfl)) (fun _ _ _ h => h) (Or.inl ⟨by rfl, ?_⟩) ?_ ?_
                 rotate_left; (intro w'; go_simp; with_reducible rfl); rotate_left; (simp only [Act.put, List.setIfInBounds_toArray, List.set_cons_zero, List.set_cons_succ, i64_w, i32_w]; rfl)
                 refine pure_ (i := 14) (N := some 110) (v := ?_) (a' := ?_) #[true, true, true, true, true, true, true, true, true, true, true, true, true, true, true, false] rfl rfl (any_of HT_.out (by kernel_rfl)) (fun _ _ _ h => h) (Or.inl ⟨by rfl, ?_⟩) ?_ ?_
                 rotate_left; (intro w'; go_simp; with_reducible rfl); rotate_left; (simp only [Act.put, List.setIfInBounds_toArray, List.set_cons_zero, List.set_cons_succ, i64_w, i32_w]; rfl)
                 refine last_ (i := 15) (N := none) #[true, true, true, true, true, true, true, true, true, true, true, true, true, true, true, true] rfl rfl (one_of HT_.out (by kernel_rfl)) (by decide) (fun K hK => ?_)
                 refine skip_ (w1 := ?_) (by rfl) rfl ?_ ?_
                 rotate_left
                 ·go_simp
                  rfl
                 refine hK.out _ _ ?_
                 clear hK K
                 refine done_ (done_of HT_.out (by kernel_rfl)) ?_
                 try go_wp2
                 go_roundg k2
                 case measure => have := HK1.out; have := HK2.out; omega
                 case rel => exact ⟨(y126), (wrap64 (x7_2 + 1)), (by first | rfl | (simp; done) | (simp [*]; done)), H', ⟨by have := HK1.out; have := HK2.out; omega⟩, ⟨by (with_reducible repeat (first | apply Kd.R_alloc | apply Kd.R_drewN | apply Kd.R_drew)); exact HQ49.out⟩, ⟨by (with_reducible repeat (first | refine blk_drewN ?_ _ | refine blk_drew ?_ | refine blk_alloc ?_ _)); refine blk_far ?_ (by have h_ := Kd.R_ne HO_5.out BK104.out (by decide); intro e_; exact h_ (by rw [e_]; rfl)) _; (with_reducible repeat (first | refine blk_drewN ?_ _ | refine blk_drew ?_ | refine blk_alloc ?_ _)); exact BK104.out⟩, ⟨by (with_reducible repeat (first | refine blk_drewN ?_ _ | refine blk_drew ?_ | refine blk_alloc ?_ _)); refine blk_far ?_ (by have h_ := Kd.R_ne HO_5.out BK105.out (by decide); intro e_; exact h_ (by rw [e_]; rfl)) _; (with_reducible repeat (first | refine blk_drewN ?_ _ | refine blk_drew ?_ | refine blk_alloc ?_ _)); exact BK105.out⟩, ⟨by repeat (first | (with_reducible first | exact HB.out | apply below_alloc | apply pw_below_drewN | apply below_drew1 | refine below_set ?_ GB7.out | refine below_set ?_ GE104.out | refine below_set ?_ GE105.out) | exact HB.out)⟩⟩
                ·rw [if_neg c44] at H
                 exact absurd H (by simp)
               ·rw [if_neg c43] at H
                exact absurd H (by simp)
              ·rw [if_neg c42] at H
               exact absurd H (by simp)
             ·rw [if_neg c41] at H
              exact absurd H (by simp)
            ·rw [if_neg c39] at H
             exact absurd H (by simp)
           ·rw [if_neg c38] at H
            exact absurd H (by simp)
          ·rw [if_neg c34] at H
           exact absurd H (by simp)
         ·rw [if_neg c33] at H
          exact absurd H (by simp)
        ·rw [if_neg c29] at H
         exact absurd H (by simp)
       ·rw [if_neg c28] at H
        exact absurd H (by simp)
      ·rw [if_neg c26] at H
       have c26b0 : decide (x7_2 < 64) = false := decide_eq_false c26
       clear c26
       replace H := Option.bind_eq_some_iff.mp H
       obtain ⟨t127, A500, H⟩ := H
       replace H : (if (t127.length : Int) = 64 then (hash_state_block.l2 k2 x5_2 (t127) 0 a0_0 a0_1 a0_2 a0_3 a0_4 a0_5 a0_6 a0_7 a0_0 a0_1 a0_2 a0_3 a0_4 a0_5 a0_6 a0_7) else (none)) = some (r1, r2, r3, r4, r5, r6, r7, r8) := H
       have A50 := Aside0.mk A500
       clear A500
       by_cases c51 : (t127.length : Int) = 64
       ·rw [if_pos c51] at H
        have c51b0 := eq_true c51
        have c51b1 : decide ((t127.length : Int) = 64) = true := decide_eq_true c51
        clear c51
        obtain ⟨y128, hy128⟩ : ∃ y_ : List Int, y_ = (t127) := ⟨_, rfl⟩
        replace H : (hash_state_block.l2 k2 x5_2 y128 0 a0_0 a0_1 a0_2 a0_3 a0_4 a0_5 a0_6 a0_7 a0_0 a0_1 a0_2 a0_3 a0_4 a0_5 a0_6 a0_7) = some (r1, r2, r3, r4, r5, r6, r7, r8) := by first | (rw [hy128]; with_reducible exact H) | (have H2_ := (Option.bind_some _ _).symm.trans H; rw [hy128]; with_reducible exact H2_) | (have H2_ := (Option.bind_some _ _).symm.trans H; with_reducible exact H2_) | with_reducible exact H | (rw [hy128]; exact H) | exact H
        have Ny128 := Aside0.mk hy128
        clear hy128
        have H' := Aside0.mk H
        clear H
        go_wp2_with (first | ((with_reducible refine gate_callee (f := 28) rfl ?_); refine goesL_ (some 111) rfl rfl Try.func28 (by kernel_rfl) rfl #[] rfl (by (try simp only [List.map_toArray, List.map_cons, List.map_nil]); first | done | rfl | (simp only [List.length_drop, List.length_take]; rfl)) ?_; (with_reducible refine (Hand.hash_rounds.calls  t127 _ A50.out).mono ?_); rintro e w52 ⟨rfl, hb⟩; refine ⟨_, rfl, ?_⟩; have n0_ := Aside0.mk (Kd.R_below (by (with_reducible repeat (first | apply Kd.R_alloc | apply Kd.R_drewN | apply Kd.R_drew)); exact HO_5.out) hb); have n1_ := Aside0.mk (blk_below (g := gb104) (o := .cells #[.int .u32 a0_0, .int .u32 a0_1, .int .u32 a0_2, .int .u32 a0_3, .int .u32 a0_4, .int .u32 a0_5, .int .u32 a0_6, .int .u32 a0_7] 37 (0, 0)) (by (with_reducible repeat (first | refine blk_drewN ?_ _ | refine blk_drew ?_ | refine blk_alloc ?_ _)); exact BK104.out) hb); have n2_ := Aside0.mk (blk_below (g := gb105) (o := .cells #[.int .u32 0, .int .u32 0, .int .u32 0, .int .u32 0, .int .u32 0, .int .u32 0, .int .u32 0, .int .u32 0] 37 (0, 0)) (by (with_reducible repeat (first | refine blk_drewN ?_ _ | refine blk_drew ?_ | refine blk_alloc ?_ _)); exact BK105.out) hb); have n3_ := Aside0.mk (below_step (by repeat (first | (with_reducible first | exact HB.out | apply below_alloc | apply pw_below_drewN | apply below_drew1 | refine below_set ?_ GE104.out | refine below_set ?_ GE105.out) | exact HB.out)) hb); clear HO_5; clear BK104; clear BK105; clear HB; have HO_5 := n0_; have BK104 := n1_; have BK105 := n2_; have HB := n3_; clear n0_ n1_ n2_ n3_; (try clear hb); (try clear hb2); (try clear hk); (try clear hi)) | ((with_reducible refine gate_dst (N := 10) rfl ?_); refine Ext.R_alloc_fill .u32 _ 52 ?hg (N := 10) ?hd ?hg2 ?hn2 52 ?x_ ?ho2 64 (by decide) t127 ?hl ?hx ?hp ?ht ?hr (ok := fun _ => True) trivial (Below.refl _ _) (Nat.le_refl _) ?_; (case hd => rfl); (case hg => rfl); (case hg2 => rfl); (case hn2 => rfl); (case ho2 => rfl); (case hl => exact beq_iff_eq.2 (of_decide_eq_true (p := (t127.length : Int) = 64) (by first | (with_reducible assumption) | assumption))); (case hx => intro p_; rfl); (case hp => intro p_; rfl); (case ht => first | rfl | kernel_rfl); (case hr => first | kernel_rfl | (go_simp; done) | (go_simp; rfl)); intro go55 w53 ho54 hb hg_ hnew_; clear hg_; rw [← Ny128.out] at ho54; have GB55 := Aside0.mk (show w.heap.size ≤ go55 from Nat.le_trans (below_size (by repeat (first | (with_reducible first | exact HB.out | apply below_alloc | apply pw_below_drewN | apply below_drew1 | refine below_set ?_ GE104.out | refine below_set ?_ GE105.out) | exact HB.out))) hnew_); have n0_ := Aside0.mk (Kd.R_elder' (by (with_reducible repeat (first | apply Kd.R_alloc | apply Kd.R_drewN | apply Kd.R_drew)); exact HO_5.out) (Kd.R_base ho54) hb); have n1_ := Aside0.mk (Kd.R_lower (Kd.R_new' ho54 (Kd.R_lt (by (with_reducible repeat (first | apply Kd.R_alloc | apply Kd.R_drewN | apply Kd.R_drew)); exact HO_5.out))) (below_size (by repeat (first | (with_reducible first | exact HB.out | apply below_alloc | apply pw_below_drewN | apply below_drew1 | refine below_set ?_ GE104.out | refine below_set ?_ GE105.out) | exact HB.out)))); have n2_ := Aside0.mk (blk_below (g := gb104) (o := .cells #[.int .u32 a0_0, .int .u32 a0_1, .int .u32 a0_2, .int .u32 a0_3, .int .u32 a0_4, .int .u32 a0_5, .int .u32 a0_6, .int .u32 a0_7] 37 (0, 0)) (by (with_reducible repeat (first | refine blk_drewN ?_ _ | refine blk_drew ?_ | refine blk_alloc ?_ _)); exact BK104.out) hb); have n3_ := Aside0.mk (blk_below (g := gb105) (o := .cells #[.int .u32 0, .int .u32 0, .int .u32 0, .int .u32 0, .int .u32 0, .int .u32 0, .int .u32 0, .int .u32 0] 37 (0, 0)) (by (with_reducible repeat (first | refine blk_drewN ?_ _ | refine blk_drew ?_ | refine blk_alloc ?_ _)); exact BK105.out) hb); have n4_ := Aside0.mk (below_step (by repeat (first | (with_reducible first | exact HB.out | apply below_alloc | apply pw_below_drewN | apply below_drew1 | refine below_set ?_ GE104.out | refine below_set ?_ GE105.out) | exact HB.out)) hb); clear HO_5; clear BK104; clear BK105; clear HB; have HO_5 := n0_; have HO130 := n1_; have BK104 := n2_; have BK105 := n3_; have HB := n4_; clear n0_ n1_ n2_ n3_ n4_; clear hb hnew_ ho54; have hnb56 := NB104_105.out; have hnc56 := NB105_104.out; have hcz57_0 : w53.cell? ⟨gb104, 0, none⟩ = some (.int .u32 a0_0) := (blk_cell BK104.out 0).trans rfl; have hcz57_1 : w53.cell? ⟨gb104, 1, none⟩ = some (.int .u32 a0_1) := (blk_cell BK104.out 1).trans rfl; have hcz57_2 : w53.cell? ⟨gb104, 2, none⟩ = some (.int .u32 a0_2) := (blk_cell BK104.out 2).trans rfl; have hcz57_3 : w53.cell? ⟨gb104, 3, none⟩ = some (.int .u32 a0_3) := (blk_cell BK104.out 3).trans rfl; have hcz57_4 : w53.cell? ⟨gb104, 4, none⟩ = some (.int .u32 a0_4) := (blk_cell BK104.out 4).trans rfl; have hcz57_5 : w53.cell? ⟨gb104, 5, none⟩ = some (.int .u32 a0_5) := (blk_cell BK104.out 5).trans rfl; have hcz57_6 : w53.cell? ⟨gb104, 6, none⟩ = some (.int .u32 a0_6) := (blk_cell BK104.out 6).trans rfl; have hcz57_7 : w53.cell? ⟨gb104, 7, none⟩ = some (.int .u32 a0_7) := (blk_cell BK104.out 7).trans rfl; have hfz57_0 := blk_frozen BK104.out 0; have hfz57_1 := blk_frozen BK104.out 1; have hfz57_2 := blk_frozen BK104.out 2; have hfz57_3 := blk_frozen BK104.out 3; have hfz57_4 := blk_frozen BK104.out 4; have hfz57_5 := blk_frozen BK104.out 5; have hfz57_6 := blk_frozen BK104.out 6; have hfz57_7 := blk_frozen BK104.out 7) | ((with_reducible refine gate_dst (N := 11) rfl ?_); refine box_event ?hg (N := 11) ?hd (cs := #[.int .u32 0, .int .u32 0, .int .u32 0, .int .u32 0, .int .u32 0, .int .u32 0, .int .u32 0, .int .u32 0]) (t := 37) ?hr ?_; (case hd => rfl); (case hg => rfl); (case hr => first | (go_simp; done) | (go_simp; rfl)); intro gb131 hg w58 hbox hb; have n0_ := Aside0.mk (Kd.R_below (by (with_reducible repeat (first | apply Kd.R_alloc | apply Kd.R_drewN | apply Kd.R_drew)); exact HO_5.out) hb); have n1_ := Aside0.mk (Kd.R_below (by (with_reducible repeat (first | apply Kd.R_alloc | apply Kd.R_drewN | apply Kd.R_drew)); exact HO130.out) hb); have n2_ := Aside0.mk (blk_below (g := gb104) (o := .cells #[.int .u32 a0_0, .int .u32 a0_1, .int .u32 a0_2, .int .u32 a0_3, .int .u32 a0_4, .int .u32 a0_5, .int .u32 a0_6, .int .u32 a0_7] 37 (0, 0)) (by (with_reducible repeat (first | refine blk_drewN ?_ _ | refine blk_drew ?_ | refine blk_alloc ?_ _)); exact BK104.out) hb); have n3_ := Aside0.mk (blk_below (g := gb105) (o := .cells #[.int .u32 0, .int .u32 0, .int .u32 0, .int .u32 0, .int .u32 0, .int .u32 0, .int .u32 0, .int .u32 0] 37 (0, 0)) (by (with_reducible repeat (first | refine blk_drewN ?_ _ | refine blk_drew ?_ | refine blk_alloc ?_ _)); exact BK105.out) hb); have n4_ := Aside0.mk (below_step (by repeat (first | (with_reducible first | exact HB.out | apply below_alloc | apply pw_below_drewN | apply below_drew1 | refine below_set ?_ GE104.out | refine below_set ?_ GE105.out) | exact HB.out)) hb); have n5_ := Aside0.mk (hbox); have n6_ := Aside0.mk ((by rw [hg]; exact (below_size (by repeat (first | (with_reducible first | exact HB.out | apply below_alloc | apply pw_below_drewN | apply below_drew1 | refine below_set ?_ GE104.out | refine below_set ?_ GE105.out) | exact HB.out))) : w.heap.size ≤ gb131)); have n7_ := Aside0.mk ((by rw [hg]; exact (below_size (by repeat (first | (with_reducible first | exact HB.out | apply below_alloc | apply pw_below_drewN | apply below_drew1 | refine below_set ?_ GE104.out | refine below_set ?_ GE105.out) | exact HB.out))) : w.heap.size ≤ gb131)); have n8_ := Aside0.mk ((by rw [hg]; exact Nat.ne_of_lt (blk_lt (g := gb104) (o := .cells #[.int .u32 a0_0, .int .u32 a0_1, .int .u32 a0_2, .int .u32 a0_3, .int .u32 a0_4, .int .u32 a0_5, .int .u32 a0_6, .int .u32 a0_7] 37 (0, 0)) (by (with_reducible repeat (first | refine blk_drewN ?_ _ | refine blk_drew ?_ | refine blk_alloc ?_ _)); exact BK104.out)) : gb104 ≠ gb131)); have n9_ := Aside0.mk ((by rw [hg]; exact Nat.ne_of_gt (blk_lt (g := gb104) (o := .cells #[.int .u32 a0_0, .int .u32 a0_1, .int .u32 a0_2, .int .u32 a0_3, .int .u32 a0_4, .int .u32 a0_5, .int .u32 a0_6, .int .u32 a0_7] 37 (0, 0)) (by (with_reducible repeat (first | refine blk_drewN ?_ _ | refine blk_drew ?_ | refine blk_alloc ?_ _)); exact BK104.out)) : gb131 ≠ gb104)); have n10_ := Aside0.mk ((by rw [hg]; exact Nat.ne_of_lt (blk_lt (g := gb105) (o := .cells #[.int .u32 0, .int .u32 0, .int .u32 0, .int .u32 0, .int .u32 0, .int .u32 0, .int .u32 0, .int .u32 0] 37 (0, 0)) (by (with_reducible repeat (first | refine blk_drewN ?_ _ | refine blk_drew ?_ | refine blk_alloc ?_ _)); exact BK105.out)) : gb105 ≠ gb131)); have n11_ := Aside0.mk ((by rw [hg]; exact Nat.ne_of_gt (blk_lt (g := gb105) (o := .cells #[.int .u32 0, .int .u32 0, .int .u32 0, .int .u32 0, .int .u32 0, .int .u32 0, .int .u32 0, .int .u32 0] 37 (0, 0)) (by (with_reducible repeat (first | refine blk_drewN ?_ _ | refine blk_drew ?_ | refine blk_alloc ?_ _)); exact BK105.out)) : gb131 ≠ gb105)); clear HO_5; clear HO130; clear BK104; clear BK105; clear HB; have HO_5 := n0_; have HO130 := n1_; have BK104 := n2_; have BK105 := n3_; have HB := n4_; have BK131 := n5_; have GW131 := n6_; have GE131 := n7_; have NB104_131 := n8_; have NB131_104 := n9_; have NB105_131 := n10_; have NB131_105 := n11_; clear n0_ n1_ n2_ n3_ n4_ n5_ n6_ n7_ n8_ n9_ n10_ n11_; clear hb hbox hg; have hnb59 := NB131_104.out; have hnc59 := NB104_131.out; have hnb60 := NB131_105.out; have hnc60 := NB105_131.out; have hcz61_0 : w58.cell? ⟨gb131, 0, none⟩ = some (.int .u32 0) := (blk_cell BK131.out 0).trans rfl; have hcz61_1 : w58.cell? ⟨gb131, 1, none⟩ = some (.int .u32 0) := (blk_cell BK131.out 1).trans rfl; have hcz61_2 : w58.cell? ⟨gb131, 2, none⟩ = some (.int .u32 0) := (blk_cell BK131.out 2).trans rfl; have hcz61_3 : w58.cell? ⟨gb131, 3, none⟩ = some (.int .u32 0) := (blk_cell BK131.out 3).trans rfl; have hcz61_4 : w58.cell? ⟨gb131, 4, none⟩ = some (.int .u32 0) := (blk_cell BK131.out 4).trans rfl; have hcz61_5 : w58.cell? ⟨gb131, 5, none⟩ = some (.int .u32 0) := (blk_cell BK131.out 5).trans rfl; have hcz61_6 : w58.cell? ⟨gb131, 6, none⟩ = some (.int .u32 0) := (blk_cell BK131.out 6).trans rfl; have hcz61_7 : w58.cell? ⟨gb131, 7, none⟩ = some (.int .u32 0) := (blk_cell BK131.out 7).trans rfl; have hfz61_0 := blk_frozen BK131.out 0; have hfz61_1 := blk_frozen BK131.out 1; have hfz61_2 := blk_frozen BK131.out 2; have hfz61_3 := blk_frozen BK131.out 3; have hfz61_4 := blk_frozen BK131.out 4; have hfz61_5 := blk_frozen BK131.out 5; have hfz61_6 := blk_frozen BK131.out 6; have hfz61_7 := blk_frozen BK131.out 7))
        go_loopg [12] k2 (fun kq v12 w' => ∃ (x12_3 : Int) (x132000_3 : Int) (x132001_3 : Int) (x132002_3 : Int) (x132003_3 : Int) (x132004_3 : Int) (x132005_3 : Int) (x132006_3 : Int) (x132007_3 : Int), v12 = .int .i64 x12_3 ∧ Aside0 (hash_state_block.l2 kq x5_2 y128 x12_3 a0_0 a0_1 a0_2 a0_3 a0_4 a0_5 a0_6 a0_7 x132000_3 x132001_3 x132002_3 x132003_3 x132004_3 x132005_3 x132006_3 x132007_3 = some (r1, r2, r3, r4, r5, r6, r7, r8)) ∧ Aside0 (kq ≤ k2) ∧ Aside0 (Kd.R (Kd.int .u32) 52 w' w.heap.size (fun k_ => some k_ ≠ ((.slice (some ⟨go55, 0, none⟩) 64 64) : Value).ownBlock) (.slice (some ⟨go7, 0, none⟩) 64 64) x5_2) ∧ Aside0 (Kd.R (Kd.int .u32) 52 w' w.heap.size (fun k_ => some k_ ≠ ((.slice (some ⟨go7, 0, none⟩) 64 64) : Value).ownBlock) (.slice (some ⟨go55, 0, none⟩) 64 64) y128) ∧ Aside0 (w'.heap[gb104]? = some (.cells #[.int .u32 a0_0, .int .u32 a0_1, .int .u32 a0_2, .int .u32 a0_3, .int .u32 a0_4, .int .u32 a0_5, .int .u32 a0_6, .int .u32 a0_7] 37 (0, 0))) ∧ Aside0 (w'.heap[gb105]? = some (.cells #[.int .u32 0, .int .u32 0, .int .u32 0, .int .u32 0, .int .u32 0, .int .u32 0, .int .u32 0, .int .u32 0] 37 (0, 0))) ∧ Aside0 (w'.heap[gb131]? = some (.cells #[.int .u32 x132000_3, .int .u32 x132001_3, .int .u32 x132002_3, .int .u32 x132003_3, .int .u32 x132004_3, .int .u32 x132005_3, .int .u32 x132006_3, .int .u32 x132007_3] 37 (0, 0))) ∧ Aside0 (Below w.heap.size w w'))
        case atStart => exact ⟨(0), (a0_0), (a0_1), (a0_2), (a0_3), (a0_4), (a0_5), (a0_6), (a0_7), (by first | rfl | (simp; done) | (simp [*]; done)), H', ⟨Nat.le_refl _⟩, ⟨by (with_reducible repeat (first | apply Kd.R_alloc | apply Kd.R_drewN | apply Kd.R_drew)); exact Kd.R_mono (Kd.R_far (p := ⟨gb131, 7, none⟩) (Kd.R_far (p := ⟨gb131, 6, none⟩) (Kd.R_far (p := ⟨gb131, 5, none⟩) (Kd.R_far (p := ⟨gb131, 4, none⟩) (Kd.R_far (p := ⟨gb131, 3, none⟩) (Kd.R_far (p := ⟨gb131, 2, none⟩) (Kd.R_far (p := ⟨gb131, 1, none⟩) (Kd.R_far (p := ⟨gb131, 0, none⟩) (Kd.R_types HO_5.out BK131.out (by decide)) (fun _ hk => hk.2) (.int .u32 a0_0)) (fun _ hk => hk.2) (.int .u32 a0_1)) (fun _ hk => hk.2) (.int .u32 a0_2)) (fun _ hk => hk.2) (.int .u32 a0_3)) (fun _ hk => hk.2) (.int .u32 a0_4)) (fun _ hk => hk.2) (.int .u32 a0_5)) (fun _ hk => hk.2) (.int .u32 a0_6)) (fun _ hk => hk.2) (.int .u32 a0_7)) (fun _ hk => hk.1.2)⟩, ⟨by (with_reducible repeat (first | apply Kd.R_alloc | apply Kd.R_drewN | apply Kd.R_drew)); exact Kd.R_mono (Kd.R_far (p := ⟨gb131, 7, none⟩) (Kd.R_far (p := ⟨gb131, 6, none⟩) (Kd.R_far (p := ⟨gb131, 5, none⟩) (Kd.R_far (p := ⟨gb131, 4, none⟩) (Kd.R_far (p := ⟨gb131, 3, none⟩) (Kd.R_far (p := ⟨gb131, 2, none⟩) (Kd.R_far (p := ⟨gb131, 1, none⟩) (Kd.R_far (p := ⟨gb131, 0, none⟩) (Kd.R_types HO130.out BK131.out (by decide)) (fun _ hk => hk.2) (.int .u32 a0_0)) (fun _ hk => hk.2) (.int .u32 a0_1)) (fun _ hk => hk.2) (.int .u32 a0_2)) (fun _ hk => hk.2) (.int .u32 a0_3)) (fun _ hk => hk.2) (.int .u32 a0_4)) (fun _ hk => hk.2) (.int .u32 a0_5)) (fun _ hk => hk.2) (.int .u32 a0_6)) (fun _ hk => hk.2) (.int .u32 a0_7)) (fun _ hk => hk.1.2)⟩, ⟨by (with_reducible repeat (first | refine blk_drewN ?_ _ | refine blk_drew ?_ | refine blk_alloc ?_ _)); refine blk_far ?_ NB104_131.out _; (with_reducible repeat (first | refine blk_drewN ?_ _ | refine blk_drew ?_ | refine blk_alloc ?_ _)); refine blk_far ?_ NB104_131.out _; (with_reducible repeat (first | refine blk_drewN ?_ _ | refine blk_drew ?_ | refine blk_alloc ?_ _)); refine blk_far ?_ NB104_131.out _; (with_reducible repeat (first | refine blk_drewN ?_ _ | refine blk_drew ?_ | refine blk_alloc ?_ _)); refine blk_far ?_ NB104_131.out _; (with_reducible repeat (first | refine blk_drewN ?_ _ | refine blk_drew ?_ | refine blk_alloc ?_ _)); refine blk_far ?_ NB104_131.out _; (with_reducible repeat (first | refine blk_drewN ?_ _ | refine blk_drew ?_ | refine blk_alloc ?_ _)); refine blk_far ?_ NB104_131.out _; (with_reducible repeat (first | refine blk_drewN ?_ _ | refine blk_drew ?_ | refine blk_alloc ?_ _)); refine blk_far ?_ NB104_131.out _; (with_reducible repeat (first | refine blk_drewN ?_ _ | refine blk_drew ?_ | refine blk_alloc ?_ _)); refine blk_far ?_ NB104_131.out _; (with_reducible repeat (first | refine blk_drewN ?_ _ | refine blk_drew ?_ | refine blk_alloc ?_ _)); exact BK104.out⟩, ⟨by (with_reducible repeat (first | refine blk_drewN ?_ _ | refine blk_drew ?_ | refine blk_alloc ?_ _)); refine blk_far ?_ NB105_131.out _; (with_reducible repeat (first | refine blk_drewN ?_ _ | refine blk_drew ?_ | refine blk_alloc ?_ _)); refine blk_far ?_ NB105_131.out _; (with_reducible repeat (first | refine blk_drewN ?_ _ | refine blk_drew ?_ | refine blk_alloc ?_ _)); refine blk_far ?_ NB105_131.out _; (with_reducible repeat (first | refine blk_drewN ?_ _ | refine blk_drew ?_ | refine blk_alloc ?_ _)); refine blk_far ?_ NB105_131.out _; (with_reducible repeat (first | refine blk_drewN ?_ _ | refine blk_drew ?_ | refine blk_alloc ?_ _)); refine blk_far ?_ NB105_131.out _; (with_reducible repeat (first | refine blk_drewN ?_ _ | refine blk_drew ?_ | refine blk_alloc ?_ _)); refine blk_far ?_ NB105_131.out _; (with_reducible repeat (first | refine blk_drewN ?_ _ | refine blk_drew ?_ | refine blk_alloc ?_ _)); refine blk_far ?_ NB105_131.out _; (with_reducible repeat (first | refine blk_drewN ?_ _ | refine blk_drew ?_ | refine blk_alloc ?_ _)); refine blk_far ?_ NB105_131.out _; (with_reducible repeat (first | refine blk_drewN ?_ _ | refine blk_drew ?_ | refine blk_alloc ?_ _)); exact BK105.out⟩, ⟨by (with_reducible repeat (first | refine blk_drewN ?_ _ | refine blk_drew ?_ | refine blk_alloc ?_ _)); refine blk_put (cs := #[.int .u32 a0_0, .int .u32 a0_1, .int .u32 a0_2, .int .u32 a0_3, .int .u32 a0_4, .int .u32 a0_5, .int .u32 a0_6, .int .u32 0]) ?_ 7 _ rfl; (with_reducible repeat (first | refine blk_drewN ?_ _ | refine blk_drew ?_ | refine blk_alloc ?_ _)); refine blk_put (cs := #[.int .u32 a0_0, .int .u32 a0_1, .int .u32 a0_2, .int .u32 a0_3, .int .u32 a0_4, .int .u32 a0_5, .int .u32 0, .int .u32 0]) ?_ 6 _ rfl; (with_reducible repeat (first | refine blk_drewN ?_ _ | refine blk_drew ?_ | refine blk_alloc ?_ _)); refine blk_put (cs := #[.int .u32 a0_0, .int .u32 a0_1, .int .u32 a0_2, .int .u32 a0_3, .int .u32 a0_4, .int .u32 0, .int .u32 0, .int .u32 0]) ?_ 5 _ rfl; (with_reducible repeat (first | refine blk_drewN ?_ _ | refine blk_drew ?_ | refine blk_alloc ?_ _)); refine blk_put (cs := #[.int .u32 a0_0, .int .u32 a0_1, .int .u32 a0_2, .int .u32 a0_3, .int .u32 0, .int .u32 0, .int .u32 0, .int .u32 0]) ?_ 4 _ rfl; (with_reducible repeat (first | refine blk_drewN ?_ _ | refine blk_drew ?_ | refine blk_alloc ?_ _)); refine blk_put (cs := #[.int .u32 a0_0, .int .u32 a0_1, .int .u32 a0_2, .int .u32 0, .int .u32 0, .int .u32 0, .int .u32 0, .int .u32 0]) ?_ 3 _ rfl; (with_reducible repeat (first | refine blk_drewN ?_ _ | refine blk_drew ?_ | refine blk_alloc ?_ _)); refine blk_put (cs := #[.int .u32 a0_0, .int .u32 a0_1, .int .u32 0, .int .u32 0, .int .u32 0, .int .u32 0, .int .u32 0, .int .u32 0]) ?_ 2 _ rfl; (with_reducible repeat (first | refine blk_drewN ?_ _ | refine blk_drew ?_ | refine blk_alloc ?_ _)); refine blk_put (cs := #[.int .u32 a0_0, .int .u32 0, .int .u32 0, .int .u32 0, .int .u32 0, .int .u32 0, .int .u32 0, .int .u32 0]) ?_ 1 _ rfl; (with_reducible repeat (first | refine blk_drewN ?_ _ | refine blk_drew ?_ | refine blk_alloc ?_ _)); refine blk_put (cs := #[.int .u32 0, .int .u32 0, .int .u32 0, .int .u32 0, .int .u32 0, .int .u32 0, .int .u32 0, .int .u32 0]) ?_ 0 _ rfl; (with_reducible repeat (first | refine blk_drewN ?_ _ | refine blk_drew ?_ | refine blk_alloc ?_ _)); exact BK131.out⟩, ⟨by repeat (first | (with_reducible first | exact HB.out | apply below_alloc | apply pw_below_drewN | apply below_drew1 | refine below_set ?_ GE104.out | refine below_set ?_ GE105.out | refine below_set ?_ GE131.out) | exact HB.out)⟩⟩
        case round =>
         clear H'
         try clear p1
         try clear q1
         try clear hx1
         try clear c2
         try clear p2
         try clear c3
         try clear c4
         try clear p4
         try clear q4
         try clear hx4
         try clear hf4
         try clear c5
         try clear c6
         try clear p6
         try clear p11
         try clear q11
         try clear hx11
         try clear p12
         try clear q12
         try clear hx12
         try clear c26
         try clear c26b0
         try clear c27
         try clear c28
         try clear c29
         try clear c33
         try clear c34
         try clear c38
         try clear c39
         try clear c41
         try clear c42
         try clear c43
         try clear c44
         try clear p45
         try clear q45
         try clear hx45
         try clear hf45
         try clear c51
         try clear c51b0
         try clear c51b1
         try clear c56
         try clear c59
         try clear c60
         try clear hcz57_0
         try clear hcz57_1
         try clear hcz57_2
         try clear hcz57_3
         try clear hcz57_4
         try clear hcz57_5
         try clear hcz57_6
         try clear hcz57_7
         try clear hcz61_0
         try clear hcz61_1
         try clear hcz61_2
         try clear hcz61_3
         try clear hcz61_4
         try clear hcz61_5
         try clear hcz61_6
         try clear hcz61_7
         try clear hfz57_0
         try clear hfz57_1
         try clear hfz57_2
         try clear hfz57_3
         try clear hfz57_4
         try clear hfz57_5
         try clear hfz57_6
         try clear hfz57_7
         try clear hfz61_0
         try clear hfz61_1
         try clear hfz61_2
         try clear hfz61_3
         try clear hfz61_4
         try clear hfz61_5
         try clear hfz61_6
         try clear hfz61_7
         try clear hx114_0
         try clear hx116_0
         try clear hx118_0
         try clear hx119_0
         try clear hx121_0
         try clear hx123_0
         try clear hx124_0
         try clear hx125_0
         try clear hx45_0
         try clear p114
         try clear p116
         try clear p118
         try clear p119
         try clear p121
         try clear p123
         try clear p124
         try clear p125
         try clear p45
         try clear q114
         try clear q116
         try clear q118
         try clear q119
         try clear q121
         try clear q123
         try clear q124
         try clear q125
         try clear q45
         obtain ⟨x12_3, x132000_3, x132001_3, x132002_3, x132003_3, x132004_3, x132005_3, x132006_3, x132007_3, rfl, HA, HK3, HO_5, HO_10, BK104, BK105, BK131, HB⟩ := hrel
         cases gk with
         | zero => exact absurd HA.out (by simp [hash_state_block.l2])
         | succ k3 =>
          have H := HA.out
          clear HA
          simp only [hash_state_block.l2] at H
          by_cases c62 : x12_3 < 64
          ·rw [if_pos c62] at H
           have c62b0 : decide (x12_3 < 64) = true := decide_eq_true c62
           clear c62
           replace H := Option.bind_eq_some_iff.mp H
           obtain ⟨t132, A630, H⟩ := H
           replace H : ((hash_turn.f x132004_3 11).bind fun t133 => ((hash_turn.f x132004_3 25).bind fun t134 => (if 0 ≤ x12_3 then (if x12_3 < (64 : Int) then ((hash_turn.f x132000_3 2).bind fun t137 => ((hash_turn.f x132000_3 13).bind fun t138 => ((hash_turn.f x132000_3 22).bind fun t139 => (hash_state_block.l2 k3 x5_2 y128 (wrap64 (x12_3 + 1)) a0_0 a0_1 a0_2 a0_3 a0_4 a0_5 a0_6 a0_7 (((((((x132007_3 + (Go.bits .xor .u32 (Go.bits .xor .u32 t132 t133) t134)) + (Go.bits .xor .u32 (Go.bits .and .u32 x132004_3 x132005_3) (Go.bits .and .u32 (Go.bits .xor .u32 4294967295 x132004_3) x132006_3))) + (rd y128 x12_3)) + (rd x5_2 x12_3)) + (Go.bits .xor .u32 (Go.bits .xor .u32 t137 t138) t139)) + (Go.bits .xor .u32 (Go.bits .xor .u32 (Go.bits .and .u32 x132000_3 x132001_3) (Go.bits .and .u32 x132000_3 x132002_3)) (Go.bits .and .u32 x132001_3 x132002_3))) % 4294967296) x132000_3 x132001_3 x132002_3 ((x132003_3 + ((((x132007_3 + (Go.bits .xor .u32 (Go.bits .xor .u32 t132 t133) t134)) + (Go.bits .xor .u32 (Go.bits .and .u32 x132004_3 x132005_3) (Go.bits .and .u32 (Go.bits .xor .u32 4294967295 x132004_3) x132006_3))) + (rd y128 x12_3)) + (rd x5_2 x12_3))) % 4294967296) x132004_3 x132005_3 x132006_3)))) else (none)) else (none)))) = some (r1, r2, r3, r4, r5, r6, r7, r8) := H
           have A63 := Aside0.mk A630
           clear A630
           replace H := Option.bind_eq_some_iff.mp H
           obtain ⟨t133, A640, H⟩ := H
           replace H : ((hash_turn.f x132004_3 25).bind fun t134 => (if 0 ≤ x12_3 then (if x12_3 < (64 : Int) then ((hash_turn.f x132000_3 2).bind fun t137 => ((hash_turn.f x132000_3 13).bind fun t138 => ((hash_turn.f x132000_3 22).bind fun t139 => (hash_state_block.l2 k3 x5_2 y128 (wrap64 (x12_3 + 1)) a0_0 a0_1 a0_2 a0_3 a0_4 a0_5 a0_6 a0_7 (((((((x132007_3 + (Go.bits .xor .u32 (Go.bits .xor .u32 t132 t133) t134)) + (Go.bits .xor .u32 (Go.bits .and .u32 x132004_3 x132005_3) (Go.bits .and .u32 (Go.bits .xor .u32 4294967295 x132004_3) x132006_3))) + (rd y128 x12_3)) + (rd x5_2 x12_3)) + (Go.bits .xor .u32 (Go.bits .xor .u32 t137 t138) t139)) + (Go.bits .xor .u32 (Go.bits .xor .u32 (Go.bits .and .u32 x132000_3 x132001_3) (Go.bits .and .u32 x132000_3 x132002_3)) (Go.bits .and .u32 x132001_3 x132002_3))) % 4294967296) x132000_3 x132001_3 x132002_3 ((x132003_3 + ((((x132007_3 + (Go.bits .xor .u32 (Go.bits .xor .u32 t132 t133) t134)) + (Go.bits .xor .u32 (Go.bits .and .u32 x132004_3 x132005_3) (Go.bits .and .u32 (Go.bits .xor .u32 4294967295 x132004_3) x132006_3))) + (rd y128 x12_3)) + (rd x5_2 x12_3))) % 4294967296) x132004_3 x132005_3 x132006_3)))) else (none)) else (none))) = some (r1, r2, r3, r4, r5, r6, r7, r8) := H
           have A64 := Aside0.mk A640
           clear A640
           replace H := Option.bind_eq_some_iff.mp H
           obtain ⟨t134, A650, H⟩ := H
           replace H : (if 0 ≤ x12_3 then (if x12_3 < (64 : Int) then ((hash_turn.f x132000_3 2).bind fun t137 => ((hash_turn.f x132000_3 13).bind fun t138 => ((hash_turn.f x132000_3 22).bind fun t139 => (hash_state_block.l2 k3 x5_2 y128 (wrap64 (x12_3 + 1)) a0_0 a0_1 a0_2 a0_3 a0_4 a0_5 a0_6 a0_7 (((((((x132007_3 + (Go.bits .xor .u32 (Go.bits .xor .u32 t132 t133) t134)) + (Go.bits .xor .u32 (Go.bits .and .u32 x132004_3 x132005_3) (Go.bits .and .u32 (Go.bits .xor .u32 4294967295 x132004_3) x132006_3))) + (rd y128 x12_3)) + (rd x5_2 x12_3)) + (Go.bits .xor .u32 (Go.bits .xor .u32 t137 t138) t139)) + (Go.bits .xor .u32 (Go.bits .xor .u32 (Go.bits .and .u32 x132000_3 x132001_3) (Go.bits .and .u32 x132000_3 x132002_3)) (Go.bits .and .u32 x132001_3 x132002_3))) % 4294967296) x132000_3 x132001_3 x132002_3 ((x132003_3 + ((((x132007_3 + (Go.bits .xor .u32 (Go.bits .xor .u32 t132 t133) t134)) + (Go.bits .xor .u32 (Go.bits .and .u32 x132004_3 x132005_3) (Go.bits .and .u32 (Go.bits .xor .u32 4294967295 x132004_3) x132006_3))) + (rd y128 x12_3)) + (rd x5_2 x12_3))) % 4294967296) x132004_3 x132005_3 x132006_3)))) else (none)) else (none)) = some (r1, r2, r3, r4, r5, r6, r7, r8) := H
           have A65 := Aside0.mk A650
           clear A650
           by_cases c66 : 0 ≤ x12_3
           ·rw [if_pos c66] at H
            have c66b0 : decide (0 ≤ x12_3) = true := decide_eq_true c66
            clear c66
            by_cases c67 : x12_3 < (64 : Int)
            ·rw [if_pos c67] at H
             have c67b0 : decide (x12_3 < (64 : Int)) = true := decide_eq_true c67
             clear c67
             replace H := Option.bind_eq_some_iff.mp H
             obtain ⟨t137, A680, H⟩ := H
             replace H : ((hash_turn.f x132000_3 13).bind fun t138 => ((hash_turn.f x132000_3 22).bind fun t139 => (hash_state_block.l2 k3 x5_2 y128 (wrap64 (x12_3 + 1)) a0_0 a0_1 a0_2 a0_3 a0_4 a0_5 a0_6 a0_7 (((((((x132007_3 + (Go.bits .xor .u32 (Go.bits .xor .u32 t132 t133) t134)) + (Go.bits .xor .u32 (Go.bits .and .u32 x132004_3 x132005_3) (Go.bits .and .u32 (Go.bits .xor .u32 4294967295 x132004_3) x132006_3))) + (rd y128 x12_3)) + (rd x5_2 x12_3)) + (Go.bits .xor .u32 (Go.bits .xor .u32 t137 t138) t139)) + (Go.bits .xor .u32 (Go.bits .xor .u32 (Go.bits .and .u32 x132000_3 x132001_3) (Go.bits .and .u32 x132000_3 x132002_3)) (Go.bits .and .u32 x132001_3 x132002_3))) % 4294967296) x132000_3 x132001_3 x132002_3 ((x132003_3 + ((((x132007_3 + (Go.bits .xor .u32 (Go.bits .xor .u32 t132 t133) t134)) + (Go.bits .xor .u32 (Go.bits .and .u32 x132004_3 x132005_3) (Go.bits .and .u32 (Go.bits .xor .u32 4294967295 x132004_3) x132006_3))) + (rd y128 x12_3)) + (rd x5_2 x12_3))) % 4294967296) x132004_3 x132005_3 x132006_3))) = some (r1, r2, r3, r4, r5, r6, r7, r8) := H
             have A68 := Aside0.mk A680
             clear A680
             replace H := Option.bind_eq_some_iff.mp H
             obtain ⟨t138, A690, H⟩ := H
             replace H : ((hash_turn.f x132000_3 22).bind fun t139 => (hash_state_block.l2 k3 x5_2 y128 (wrap64 (x12_3 + 1)) a0_0 a0_1 a0_2 a0_3 a0_4 a0_5 a0_6 a0_7 (((((((x132007_3 + (Go.bits .xor .u32 (Go.bits .xor .u32 t132 t133) t134)) + (Go.bits .xor .u32 (Go.bits .and .u32 x132004_3 x132005_3) (Go.bits .and .u32 (Go.bits .xor .u32 4294967295 x132004_3) x132006_3))) + (rd y128 x12_3)) + (rd x5_2 x12_3)) + (Go.bits .xor .u32 (Go.bits .xor .u32 t137 t138) t139)) + (Go.bits .xor .u32 (Go.bits .xor .u32 (Go.bits .and .u32 x132000_3 x132001_3) (Go.bits .and .u32 x132000_3 x132002_3)) (Go.bits .and .u32 x132001_3 x132002_3))) % 4294967296) x132000_3 x132001_3 x132002_3 ((x132003_3 + ((((x132007_3 + (Go.bits .xor .u32 (Go.bits .xor .u32 t132 t133) t134)) + (Go.bits .xor .u32 (Go.bits .and .u32 x132004_3 x132005_3) (Go.bits .and .u32 (Go.bits .xor .u32 4294967295 x132004_3) x132006_3))) + (rd y128 x12_3)) + (rd x5_2 x12_3))) % 4294967296) x132004_3 x132005_3 x132006_3)) = some (r1, r2, r3, r4, r5, r6, r7, r8) := H
             have A69 := Aside0.mk A690
             clear A690
             replace H := Option.bind_eq_some_iff.mp H
             obtain ⟨t139, A700, H⟩ := H
             replace H : (hash_state_block.l2 k3 x5_2 y128 (wrap64 (x12_3 + 1)) a0_0 a0_1 a0_2 a0_3 a0_4 a0_5 a0_6 a0_7 (((((((x132007_3 + (Go.bits .xor .u32 (Go.bits .xor .u32 t132 t133) t134)) + (Go.bits .xor .u32 (Go.bits .and .u32 x132004_3 x132005_3) (Go.bits .and .u32 (Go.bits .xor .u32 4294967295 x132004_3) x132006_3))) + (rd y128 x12_3)) + (rd x5_2 x12_3)) + (Go.bits .xor .u32 (Go.bits .xor .u32 t137 t138) t139)) + (Go.bits .xor .u32 (Go.bits .xor .u32 (Go.bits .and .u32 x132000_3 x132001_3) (Go.bits .and .u32 x132000_3 x132002_3)) (Go.bits .and .u32 x132001_3 x132002_3))) % 4294967296) x132000_3 x132001_3 x132002_3 ((x132003_3 + ((((x132007_3 + (Go.bits .xor .u32 (Go.bits .xor .u32 t132 t133) t134)) + (Go.bits .xor .u32 (Go.bits .and .u32 x132004_3 x132005_3) (Go.bits .and .u32 (Go.bits .xor .u32 4294967295 x132004_3) x132006_3))) + (rd y128 x12_3)) + (rd x5_2 x12_3))) % 4294967296) x132004_3 x132005_3 x132006_3) = some (r1, r2, r3, r4, r5, r6, r7, r8) := H
             have A70 := Aside0.mk A700
             clear A700
             have H' := Aside0.mk H
             clear H
             try go_wp2
             have n0_ := Aside0.mk (Kd.R_drew HO_5.out)
             have n1_ := Aside0.mk (Kd.R_drew HO_10.out)
             have n2_ := Aside0.mk (blk_drew BK104.out)
             have n3_ := Aside0.mk (blk_drew BK105.out)
             have n4_ := Aside0.mk (blk_drew BK131.out)
             have n5_ := Aside0.mk (below_drew1 HB.out)
             clear HO_5
             clear HO_10
             clear BK104
             clear BK105
             clear BK131
             clear HB
             have HO_5 := n0_
             have HO_10 := n1_
             have BK104 := n2_
             have BK105 := n3_
             have BK131 := n4_
             have HB := n5_
             clear n0_ n1_ n2_ n3_ n4_ n5_
             refine start_ (n := 12) (S := fun w' => w'.cell? ⟨gb131, 0, none⟩ = some (.int .u32 x132000_3) ∧ w'.cell? ⟨gb131, 1, none⟩ = some (.int .u32 x132001_3) ∧ w'.cell? ⟨gb131, 2, none⟩ = some (.int .u32 x132002_3) ∧ w'.cell? ⟨gb131, 3, none⟩ = some (.int .u32 x132003_3) ∧ w'.cell? ⟨gb131, 4, none⟩ = some (.int .u32 x132004_3) ∧ w'.cell? ⟨gb131, 5, none⟩ = some (.int .u32 x132005_3) ∧ w'.cell? ⟨gb131, 6, none⟩ = some (.int .u32 x132006_3) ∧ w'.cell? ⟨gb131, 7, none⟩ = some (.int .u32 x132007_3)) (ds := []) #[false, false, false, false, false, false, false, false, false, false, false, false] (by kernel_rfl) rfl rfl ⟨(blk_cell BK131.out 0).trans rfl, (blk_cell BK131.out 1).trans rfl, (blk_cell BK131.out 2).trans rfl, (blk_cell BK131.out 3).trans rfl, (blk_cell BK131.out 4).trans rfl, (blk_cell BK131.out 5).trans rfl, (blk_cell BK131.out 6).trans rfl, (blk_cell BK131.out 7).trans rfl⟩ (fun hHeld => ?_); refine with_tabW hash_state_block.tab17 hash_state_block.bits17 (fun HT_ HW_ => ?_)
             generalize wr.drew = w71 at HO_5 HO_10 BK104 BK105 BK131 HB hHeld ⊢
             refine pure_ (i := 0) (N := some 117) (v := ?_) (a' := ?_) #[true, false, false, false, false, false, false, false, false, false, false, false] rfl rfl (any_of HT_.out (by kernel_rfl)) (fun _ _ _ h => h) (Or.inl ⟨by rfl, ?_⟩) ?_ ?_
             rotate_left; (intro w'; go_simp; with_reducible rfl); rotate_left; (simp only [Act.put, List.setIfInBounds_toArray, List.set_cons_zero, List.set_cons_succ, i64_w, i32_w]; rfl)
             refine pure_ (i := 3) (N := some 120) (v := ?_) (a' := ?_) #[true, false, false, true, false, false, false, false, false, false, false, false] rfl rfl (any_of HT_.out (by kernel_rfl)) (fun _ _ _ h => h) (Or.inl ⟨by rfl, ?_⟩) ?_ ?_
             rotate_left; (intro w'; go_simp; with_reducible rfl); rotate_left; (simp only [Act.put, List.setIfInBounds_toArray, List.set_cons_zero, List.set_cons_succ, i64_w, i32_w]; rfl)
             refine pure_ (i := 7) (N := some 124) (v := ?_) (a' := ?_) #[true, false, false, true, false, false, false, true, false, false, false, false] rfl rfl (any_of HT_.out (by kernel_rfl)) (fun _ _ _ h => h) (Or.inl ⟨by rfl, ?_⟩) ?_ ?_
             rotate_left; (intro w'; go_simp; with_reducible rfl); rotate_left; (simp only [Act.put, List.setIfInBounds_toArray, List.set_cons_zero, List.set_cons_succ, i64_w, i32_w]; rfl)
             refine take_ (i := 1) (N := some 118) (v := ?_) (a' := ?_) #[true, true, false, true, false, false, false, true, false, false, false, false] rfl rfl (take_ofW HT_.out HW_.out (by kernel_rfl)) (fun _ _ _ h => h) (Or.inl ⟨by rfl, ?_⟩) hHeld ?_ ?_
             rotate_left; (rintro w' ⟨s0, s1, s2, s3, s4, s5, s6, s7⟩; go_simp; with_reducible rfl); rotate_left; (simp only [Act.put, List.setIfInBounds_toArray, List.set_cons_zero, List.set_cons_succ, i64_w, i32_w]; rfl)
             refine take_ (i := 4) (N := some 121) (v := ?_) (a' := ?_) #[true, true, false, true, true, false, false, true, false, false, false, false] rfl rfl (take_ofW HT_.out HW_.out (by kernel_rfl)) (fun _ _ _ h => h) (Or.inl ⟨by rfl, ?_⟩) hHeld ?_ ?_
             rotate_left; (rintro w' ⟨s0, s1, s2, s3, s4, s5, s6, s7⟩; go_simp; with_reducible rfl); rotate_left; (simp only [Act.put, List.setIfInBounds_toArray, List.set_cons_zero, List.set_cons_succ, i64_w, i32_w]; rfl)
             refine take_ (i := 8) (N := some 125) (v := ?_) (a' := ?_) #[true, true, false, true, true, false, false, true, true, false, false, false] rfl rfl (take_ofW HT_.out HW_.out (by kernel_rfl)) (fun _ _ _ h => h) (Or.inl ⟨by rfl, ?_⟩) hHeld ?_ ?_
             rotate_left; (rintro w' ⟨s0, s1, s2, s3, s4, s5, s6, s7⟩; go_simp; with_reducible rfl); rotate_left; (simp only [Act.put, List.setIfInBounds_toArray, List.set_cons_zero, List.set_cons_succ, i64_w, i32_w]; rfl)
             refine one_ (i := 2) (N := some 119) #[true, true, true, true, true, false, false, true, true, false, false, false] rfl rfl (one_of HT_.out (by kernel_rfl)) (by decide) (fun K hK => ?_)
             refine goes_ Try.func27 (by kernel_rfl) rfl #[.int .u32 x132004_3, .int .u64 6] (by rfl) rfl rfl (by (try simp only [List.map_toArray, List.map_cons, List.map_nil]); first | done | rfl | (simp only [List.length_drop, List.length_take]; rfl)) ?_
             with_reducible refine (hash_turn.calls x132004_3 6 t132 _ A63.out).mono ?_
             rintro e w' ⟨rfl, ⟨nd, rfl⟩⟩
             refine ⟨_, rfl, ?_⟩
             refine hK.out _ _ ⟨(blk_cell BK131.out 0).trans rfl, (blk_cell BK131.out 1).trans rfl, (blk_cell BK131.out 2).trans rfl, (blk_cell BK131.out 3).trans rfl, (blk_cell BK131.out 4).trans rfl, (blk_cell BK131.out 5).trans rfl, (blk_cell BK131.out 6).trans rfl, (blk_cell BK131.out 7).trans rfl⟩ (fun hHeld => ?_)
             clear hK K
             refine norm_ (a' := ?_) ?_ ?_
             rotate_left
             ·show Act.put _ (some 119) _ = _
              simp only [Act.put, List.setIfInBounds_toArray, List.set_cons_zero, List.set_cons_succ, i64_w, i32_w]
              rfl
             refine one_ (i := 5) (N := some 122) #[true, true, true, true, true, true, false, true, true, false, false, false] rfl rfl (one_of HT_.out (by kernel_rfl)) (by decide) (fun K hK => ?_)
             refine goes_ Try.func27 (by kernel_rfl) rfl #[.int .u32 x132004_3, .int .u64 11] (by rfl) rfl rfl (by (try simp only [List.map_toArray, List.map_cons, List.map_nil]); first | done | rfl | (simp only [List.length_drop, List.length_take]; rfl)) ?_
             with_reducible refine (hash_turn.calls x132004_3 11 t133 _ A64.out).mono ?_
             rintro e w' ⟨rfl, ⟨nd, rfl⟩⟩
             refine ⟨_, rfl, ?_⟩
             refine hK.out _ _ ⟨(blk_cell BK131.out 0).trans rfl, (blk_cell BK131.out 1).trans rfl, (blk_cell BK131.out 2).trans rfl, (blk_cell BK131.out 3).trans rfl, (blk_cell BK131.out 4).trans rfl, (blk_cell BK131.out 5).trans rfl, (blk_cell BK131.out 6).trans rfl, (blk_cell BK131.out 7).trans rfl⟩ (fun hHeld => ?_)
             clear hK K
             refine norm_ (a' := ?_) ?_ ?_
             rotate_left
             ·show Act.put _ (some 122) _ = _
              simp only [Act.put, List.setIfInBounds_toArray, List.set_cons_zero, List.set_cons_succ, i64_w, i32_w]
              rfl
             refine pure_ (i := 6) (N := some 123) (v := ?_) (a' := ?_) #[true, true, true, true, true, true, true, true, true, false, false, false] rfl rfl (any_of HT_.out (by kernel_rfl)) (fun _ _ _ h => h) (Or.inl ⟨by rfl, ?_⟩) ?_ ?_
             rotate_left; (intro w'; go_simp; with_reducible rfl); rotate_left; (simp only [Act.put, List.setIfInBounds_toArray, List.set_cons_zero, List.set_cons_succ, i64_w, i32_w]; rfl)
             refine one_ (i := 9) (N := some 126) #[true, true, true, true, true, true, true, true, true, true, false, false] rfl rfl (one_of HT_.out (by kernel_rfl)) (by decide) (fun K hK => ?_)
             refine goes_ Try.func27 (by kernel_rfl) rfl #[.int .u32 x132004_3, .int .u64 25] (by rfl) rfl rfl (by (try simp only [List.map_toArray, List.map_cons, List.map_nil]); first | done | rfl | (simp only [List.length_drop, List.length_take]; rfl)) ?_
             with_reducible refine (hash_turn.calls x132004_3 25 t134 _ A65.out).mono ?_
             rintro e w' ⟨rfl, ⟨nd, rfl⟩⟩
             refine ⟨_, rfl, ?_⟩
             refine hK.out _ _ ⟨(blk_cell BK131.out 0).trans rfl, (blk_cell BK131.out 1).trans rfl, (blk_cell BK131.out 2).trans rfl, (blk_cell BK131.out 3).trans rfl, (blk_cell BK131.out 4).trans rfl, (blk_cell BK131.out 5).trans rfl, (blk_cell BK131.out 6).trans rfl, (blk_cell BK131.out 7).trans rfl⟩ (fun hHeld => ?_)
             clear hK K
             refine norm_ (a' := ?_) ?_ ?_
             rotate_left
             ·show Act.put _ (some 126) _ = _
              simp only [Act.put, List.setIfInBounds_toArray, List.set_cons_zero, List.set_cons_succ, i64_w, i32_w]
              rfl
             refine pure_ (i := 10) (N := some 127) (v := ?_) (a' := ?_) #[true, true, true, true, true, true, true, true, true, true, true, false] rfl rfl (any_of HT_.out (by kernel_rfl)) (fun _ _ _ h => h) (Or.inl ⟨by rfl, ?_⟩) ?_ ?_
             rotate_left; (intro w'; go_simp; with_reducible rfl); rotate_left; (simp only [Act.put, List.setIfInBounds_toArray, List.set_cons_zero, List.set_cons_succ, i64_w, i32_w]; rfl)
             refine pure_ (i := 11) (N := some 13) (v := ?_) (a' := ?_) #[true, true, true, true, true, true, true, true, true, true, true, true] rfl rfl (any_of HT_.out (by kernel_rfl)) (fun _ _ _ h => h) (Or.inl ⟨by rfl, ?_⟩) ?_ ?_
             rotate_left; (intro w'; go_simp; with_reducible rfl); rotate_left; (simp only [Act.put, List.setIfInBounds_toArray, List.set_cons_zero, List.set_cons_succ, i64_w, i32_w]; rfl)
             refine done_ (done_of HT_.out (by kernel_rfl)) ?_
             have hnb72 := NB131_104.out
             have hnc72 := NB104_131.out
             have hnb73 := NB131_105.out
             have hnc73 := NB105_131.out
             have hcz74_0 : w71.cell? ⟨gb131, 0, none⟩ = some (.int .u32 x132000_3) := (blk_cell BK131.out 0).trans rfl
             have hcz74_1 : w71.cell? ⟨gb131, 1, none⟩ = some (.int .u32 x132001_3) := (blk_cell BK131.out 1).trans rfl
             have hcz74_2 : w71.cell? ⟨gb131, 2, none⟩ = some (.int .u32 x132002_3) := (blk_cell BK131.out 2).trans rfl
             have hcz74_3 : w71.cell? ⟨gb131, 3, none⟩ = some (.int .u32 x132003_3) := (blk_cell BK131.out 3).trans rfl
             have hcz74_4 : w71.cell? ⟨gb131, 4, none⟩ = some (.int .u32 x132004_3) := (blk_cell BK131.out 4).trans rfl
             have hcz74_5 : w71.cell? ⟨gb131, 5, none⟩ = some (.int .u32 x132005_3) := (blk_cell BK131.out 5).trans rfl
             have hcz74_6 : w71.cell? ⟨gb131, 6, none⟩ = some (.int .u32 x132006_3) := (blk_cell BK131.out 6).trans rfl
             have hcz74_7 : w71.cell? ⟨gb131, 7, none⟩ = some (.int .u32 x132007_3) := (blk_cell BK131.out 7).trans rfl
             have hfz74_0 := blk_frozen BK131.out 0
             have hfz74_1 := blk_frozen BK131.out 1
             have hfz74_2 := blk_frozen BK131.out 2
             have hfz74_3 := blk_frozen BK131.out 3
             have hfz74_4 := blk_frozen BK131.out 4
             have hfz74_5 := blk_frozen BK131.out 5
             have hfz74_6 := blk_frozen BK131.out 6
             have hfz74_7 := blk_frozen BK131.out 7
             try go_wp2
             (try (rw [drewN_self w71]; generalize hq_ : World.drewN w71 _ = w71; have n0_ : Aside0 (Kd.R (Kd.int .u32) 52 w71 w.heap.size (fun k_ => some k_ ≠ (.slice (some ⟨go7, 0, none⟩) 64 64 : Value).ownBlock) (.slice (some ⟨go55, 0, none⟩) 64 64) y128) := ⟨by rw [← hq_]; exact (by (with_reducible repeat (first | apply Kd.R_alloc | apply Kd.R_drewN | apply Kd.R_drew)); exact HO_10.out)⟩; have n1_ : Aside0 (Kd.R (Kd.int .u32) 52 w71 w.heap.size (fun k_ => some k_ ≠ (.slice (some ⟨go55, 0, none⟩) 64 64 : Value).ownBlock) (.slice (some ⟨go7, 0, none⟩) 64 64) x5_2) := ⟨by rw [← hq_]; exact (by (with_reducible repeat (first | apply Kd.R_alloc | apply Kd.R_drewN | apply Kd.R_drew)); exact HO_5.out)⟩; have n2_ : Aside0 (w71.heap[gb104]? = some (.cells #[.int .u32 a0_0, .int .u32 a0_1, .int .u32 a0_2, .int .u32 a0_3, .int .u32 a0_4, .int .u32 a0_5, .int .u32 a0_6, .int .u32 a0_7] 37 (0, 0))) := ⟨by rw [← hq_]; exact (by (with_reducible repeat (first | refine blk_drewN ?_ _ | refine blk_drew ?_ | refine blk_alloc ?_ _)); exact BK104.out)⟩; have n3_ : Aside0 (w71.heap[gb105]? = some (.cells #[.int .u32 0, .int .u32 0, .int .u32 0, .int .u32 0, .int .u32 0, .int .u32 0, .int .u32 0, .int .u32 0] 37 (0, 0))) := ⟨by rw [← hq_]; exact (by (with_reducible repeat (first | refine blk_drewN ?_ _ | refine blk_drew ?_ | refine blk_alloc ?_ _)); exact BK105.out)⟩; have n4_ : Aside0 (w71.heap[gb131]? = some (.cells #[.int .u32 x132000_3, .int .u32 x132001_3, .int .u32 x132002_3, .int .u32 x132003_3, .int .u32 x132004_3, .int .u32 x132005_3, .int .u32 x132006_3, .int .u32 x132007_3] 37 (0, 0))) := ⟨by rw [← hq_]; exact (by (with_reducible repeat (first | refine blk_drewN ?_ _ | refine blk_drew ?_ | refine blk_alloc ?_ _)); exact BK131.out)⟩; have n5_ : Aside0 (Below w.heap.size w w71) := ⟨by rw [← hq_]; exact (by repeat (first | (with_reducible first | exact HB.out | apply below_alloc | apply pw_below_drewN | apply below_drew1 | refine below_set ?_ GE104.out | refine below_set ?_ GE105.out | refine below_set ?_ GE131.out) | exact HB.out))⟩; clear HO_10 HO_5 BK104 BK105 BK131 HB hq_; have HO_10 := n0_; have HO_5 := n1_; have BK104 := n2_; have BK105 := n3_; have BK131 := n4_; have HB := n5_; clear n0_ n1_ n2_ n3_ n4_ n5_))
             have n0_ := Aside0.mk (Kd.R_drew HO_5.out)
             have n1_ := Aside0.mk (Kd.R_drew HO_10.out)
             have n2_ := Aside0.mk (blk_drew BK104.out)
             have n3_ := Aside0.mk (blk_drew BK105.out)
             have n4_ := Aside0.mk (blk_drew BK131.out)
             have n5_ := Aside0.mk (below_drew1 HB.out)
             clear HO_5
             clear HO_10
             clear BK104
             clear BK105
             clear BK131
             clear HB
             have HO_5 := n0_
             have HO_10 := n1_
             have BK104 := n2_
             have BK105 := n3_
             have BK131 := n4_
             have HB := n5_
             clear n0_ n1_ n2_ n3_ n4_ n5_
             have p135 : 0 ≤ (x12_3 : Int) := of_decide_eq_true (by first | (with_reducible assumption) | assumption)
             have q135 : x12_3 < (y128.length : Int) := (by have h_ : (x12_3 : Int) < ((64 : Int) : Int) := of_decide_eq_true (by first | (with_reducible assumption) | assumption); have e_ := (Kd.R_reads' HO_10.out).1; omega)
             have ql135 : ((x12_3 : Int) < ((64 : Int) : Int)) = True := eq_true (of_decide_eq_true (by first | (with_reducible assumption) | assumption))
             obtain ⟨ad135, e135, hx135_0⟩ := Kd.at_int (Kd.R_reads' HO_10.out).2.2 x12_3 p135 q135
             obtain rfl : (⟨go55, 0, none⟩ : Addr) = ad135 := (by injection e135)
             (first | simp only [add_plain] at hx135_0 | simp only [add_at] at hx135_0 | simp only [Addr.add, Nat.zero_add] at hx135_0 | skip)
             replace p135 := eq_true p135
             replace q135 := eq_true q135
             have p136 : 0 ≤ (x12_3 : Int) := of_decide_eq_true (by first | (with_reducible assumption) | assumption)
             have q136 : x12_3 < (x5_2.length : Int) := (by have h_ : (x12_3 : Int) < ((64 : Int) : Int) := of_decide_eq_true (by first | (with_reducible assumption) | assumption); have e_ := (Kd.R_reads' HO_5.out).1; omega)
             have ql136 : ((x12_3 : Int) < ((64 : Int) : Int)) = True := eq_true (of_decide_eq_true (by first | (with_reducible assumption) | assumption))
             obtain ⟨ad136, e136, hx136_0⟩ := Kd.at_int (Kd.R_reads' HO_5.out).2.2 x12_3 p136 q136
             obtain rfl : (⟨go7, 0, none⟩ : Addr) = ad136 := (by injection e136)
             (first | simp only [add_plain] at hx136_0 | simp only [add_at] at hx136_0 | simp only [Addr.add, Nat.zero_add] at hx136_0 | skip)
             replace p136 := eq_true p136
             replace q136 := eq_true q136
             refine start_ (n := 15) (S := fun w' => w'.cell? ⟨gb131, 0, none⟩ = some (.int .u32 x132000_3) ∧ w'.cell? ⟨gb131, 1, none⟩ = some (.int .u32 x132001_3) ∧ w'.cell? ⟨gb131, 2, none⟩ = some (.int .u32 x132002_3) ∧ w'.cell? ⟨gb131, 3, none⟩ = some (.int .u32 x132003_3) ∧ w'.cell? ⟨gb131, 4, none⟩ = some (.int .u32 x132004_3) ∧ w'.cell? ⟨gb131, 5, none⟩ = some (.int .u32 x132005_3) ∧ w'.cell? ⟨gb131, 6, none⟩ = some (.int .u32 x132006_3) ∧ w'.cell? ⟨gb131, 7, none⟩ = some (.int .u32 x132007_3) ∧ w'.cell? ⟨go55, (x12_3).toNat, none⟩ = some (.int .u32 (rd y128 x12_3)) ∧ w'.cell? ⟨go7, (x12_3).toNat, none⟩ = some (.int .u32 (rd x5_2 x12_3))) (ds := []) #[false, false, false, false, false, false, false, false, false, false, false, false, false, false, false] (by kernel_rfl) rfl rfl ⟨(blk_cell BK131.out 0).trans rfl, (blk_cell BK131.out 1).trans rfl, (blk_cell BK131.out 2).trans rfl, (blk_cell BK131.out 3).trans rfl, (blk_cell BK131.out 4).trans rfl, (blk_cell BK131.out 5).trans rfl, (blk_cell BK131.out 6).trans rfl, (blk_cell BK131.out 7).trans rfl, hx135_0, hx136_0⟩ (fun hHeld => ?_); refine with_tabW hash_state_block.tab19 hash_state_block.bits19 (fun HT_ HW_ => ?_)
             generalize w71.drew = w75 at HO_5 HO_10 BK104 BK105 BK131 HB hx135_0 hx136_0 hHeld ⊢
             refine pure_ (i := 0) (N := some 140) (v := ?_) (a' := ?_) #[true, false, false, false, false, false, false, false, false, false, false, false, false, false, false] rfl rfl (any_of HT_.out (by kernel_rfl)) (fun _ _ _ h => h) (Or.inl ⟨by rfl, ?_⟩) ?_ ?_
             rotate_left; (intro w'; go_simp; with_reducible rfl); rotate_left; (simp only [Act.put, List.setIfInBounds_toArray, List.set_cons_zero, List.set_cons_succ, i64_w, i32_w]; rfl)
             refine pure_ (i := 2) (N := some 142) (v := ?_) (a' := ?_) #[true, false, true, false, false, false, false, false, false, false, false, false, false, false, false] rfl rfl (any_of HT_.out (by kernel_rfl)) (fun _ _ _ h => h) (Or.inl ⟨by rfl, ?_⟩) ?_ ?_
             rotate_left; (intro w'; go_simp; with_reducible rfl); rotate_left; (simp only [Act.put, List.setIfInBounds_toArray, List.set_cons_zero, List.set_cons_succ, i64_w, i32_w]; rfl)
             refine pure_ (i := 4) (N := some 144) (v := ?_) (a' := ?_) #[true, false, true, false, true, false, false, false, false, false, false, false, false, false, false] rfl rfl (any_of HT_.out (by kernel_rfl)) (fun _ _ _ h => h) (Or.inl ⟨by rfl, ?_⟩) ?_ ?_
             rotate_left; (intro w'; go_simp; with_reducible rfl); rotate_left; (simp only [Act.put, List.setIfInBounds_toArray, List.set_cons_zero, List.set_cons_succ, i64_w, i32_w]; rfl)
             refine pure_ (i := 6) (N := some 146) (v := ?_) (a' := ?_) #[true, false, true, false, true, false, true, false, false, false, false, false, false, false, false] rfl rfl (any_of HT_.out (by kernel_rfl)) (fun _ _ _ h => h) (Or.inl ⟨by rfl, ?_⟩) ?_ ?_
             rotate_left; (intro w'; go_simp; with_reducible rfl); rotate_left; (simp only [Act.put, List.setIfInBounds_toArray, List.set_cons_zero, List.set_cons_succ, i64_w, i32_w]; rfl)
             refine pure_ (i := 7) (N := some 147) (v := ?_) (a' := ?_) #[true, false, true, false, true, false, true, true, false, false, false, false, false, false, false] rfl rfl (any_of HT_.out (by kernel_rfl)) (fun _ _ _ h => h) (Or.inl ⟨by rfl, ?_⟩) ?_ ?_
             rotate_left; (intro w'; go_simp; with_reducible rfl); rotate_left; (simp only [Act.put, List.setIfInBounds_toArray, List.set_cons_zero, List.set_cons_succ, i64_w, i32_w]; rfl)
             refine pure_ (i := 10) (N := some 150) (v := ?_) (a' := ?_) #[true, false, true, false, true, false, true, true, false, false, true, false, false, false, false] rfl rfl (any_of HT_.out (by kernel_rfl)) (fun _ _ _ h => h) (Or.inl ⟨by rfl, ?_⟩) ?_ ?_
             rotate_left; (intro w'; go_simp; with_reducible rfl); rotate_left; (simp only [Act.put, List.setIfInBounds_toArray, List.set_cons_zero, List.set_cons_succ, i64_w, i32_w]; rfl)
             refine pure_ (i := 11) (N := some 151) (v := ?_) (a' := ?_) #[true, false, true, false, true, false, true, true, false, false, true, true, false, false, false] rfl rfl (any_of HT_.out (by kernel_rfl)) (fun _ _ _ h => h) (Or.inl ⟨by rfl, ?_⟩) ?_ ?_
             rotate_left; (intro w'; go_simp; with_reducible rfl); rotate_left; (simp only [Act.put, List.setIfInBounds_toArray, List.set_cons_zero, List.set_cons_succ, i64_w, i32_w]; rfl)
             refine take_ (i := 1) (N := some 141) (v := ?_) (a' := ?_) #[true, true, true, false, true, false, true, true, false, false, true, true, false, false, false] rfl rfl (take_ofW HT_.out HW_.out (by kernel_rfl)) (fun _ _ _ h => h) (Or.inl ⟨by rfl, ?_⟩) hHeld ?_ ?_
             rotate_left; (rintro w' ⟨s0, s1, s2, s3, s4, s5, s6, s7, s8, s9⟩; go_simp; with_reducible rfl); rotate_left; (simp only [Act.put, List.setIfInBounds_toArray, List.set_cons_zero, List.set_cons_succ, i64_w, i32_w]; rfl)
             refine pure_ (i := 3) (N := some 143) (v := ?_) (a' := ?_) #[true, true, true, true, true, false, true, true, false, false, true, true, false, false, false] rfl rfl (any_of HT_.out (by kernel_rfl)) (fun _ _ _ h => h) (Or.inl ⟨by rfl, ?_⟩) ?_ ?_
             rotate_left; (intro w'; go_simp; with_reducible rfl); rotate_left; (simp only [Act.put, List.setIfInBounds_toArray, List.set_cons_zero, List.set_cons_succ, i64_w, i32_w]; rfl)
             refine pure_ (i := 5) (N := some 145) (v := ?_) (a' := ?_) #[true, true, true, true, true, true, true, true, false, false, true, true, false, false, false] rfl rfl (any_of HT_.out (by kernel_rfl)) (fun _ _ _ h => h) (Or.inl ⟨by rfl, ?_⟩) ?_ ?_
             rotate_left; (intro w'; go_simp; with_reducible rfl); rotate_left; (simp only [Act.put, List.setIfInBounds_toArray, List.set_cons_zero, List.set_cons_succ, i64_w, i32_w]; rfl)
             refine take_ (i := 8) (N := some 148) (v := ?_) (a' := ?_) #[true, true, true, true, true, true, true, true, true, false, true, true, false, false, false] rfl rfl (take_ofW HT_.out HW_.out (by kernel_rfl)) (fun _ _ _ h => h) (Or.inl ⟨by rfl, ?_⟩) hHeld ?_ ?_
             rotate_left; (rintro w' ⟨s0, s1, s2, s3, s4, s5, s6, s7, s8, s9⟩; go_simp; with_reducible rfl); rotate_left; (simp only [Act.put, List.setIfInBounds_toArray, List.set_cons_zero, List.set_cons_succ, i64_w, i32_w]; rfl)
             refine pure_ (i := 9) (N := some 149) (v := ?_) (a' := ?_) #[true, true, true, true, true, true, true, true, true, true, true, true, false, false, false] rfl rfl (any_of HT_.out (by kernel_rfl)) (fun _ _ _ h => h) (Or.inl ⟨by rfl, ?_⟩) ?_ ?_
             rotate_left; (intro w'; go_simp; with_reducible rfl); rotate_left; (simp only [Act.put, List.setIfInBounds_toArray, List.set_cons_zero, List.set_cons_succ, i64_w, i32_w]; rfl)
             refine take_ (i := 12) (N := some 152) (v := ?_) (a' := ?_) #[true, true, true, true, true, true, true, true, true, true, true, true, true, false, false] rfl rfl (take_ofW HT_.out HW_.out (by kernel_rfl)) (fun _ _ _ h => h) (Or.inl ⟨by rfl, ?_⟩) hHeld ?_ ?_
             rotate_left; (rintro w' ⟨s0, s1, s2, s3, s4, s5, s6, s7, s8, s9⟩; go_simp; with_reducible rfl); rotate_left; (simp only [Act.put, List.setIfInBounds_toArray, List.set_cons_zero, List.set_cons_succ, i64_w, i32_w]; rfl)
             refine pure_ (i := 13) (N := some 153) (v := ?_) (a' := ?_) #[true, true, true, true, true, true, true, true, true, true, true, true, true, true, false] rfl rfl (any_of HT_.out (by kernel_rfl)) (fun _ _ _ h => h) (Or.inl ⟨by rfl, ?_⟩) ?_ ?_
             rotate_left; (intro w'; go_simp; with_reducible rfl); rotate_left; (simp only [Act.put, List.setIfInBounds_toArray, List.set_cons_zero, List.set_cons_succ, i64_w, i32_w]; rfl)
             refine pure_ (i := 14) (N := some 15) (v := ?_) (a' := ?_) #[true, true, true, true, true, true, true, true, true, true, true, true, true, true, true] rfl rfl (any_of HT_.out (by kernel_rfl)) (fun _ _ _ h => h) (Or.inl ⟨by rfl, ?_⟩) ?_ ?_
             rotate_left; (intro w'; go_simp; with_reducible rfl); rotate_left; (simp only [Act.put, List.setIfInBounds_toArray, List.set_cons_zero, List.set_cons_succ, i64_w, i32_w]; rfl)
             refine done_ (done_of HT_.out (by kernel_rfl)) ?_
             try go_wp2
             have n0_ := Aside0.mk (Kd.R_drew HO_5.out)
             have n1_ := Aside0.mk (Kd.R_drew HO_10.out)
             have n2_ := Aside0.mk (blk_drew BK104.out)
             have n3_ := Aside0.mk (blk_drew BK105.out)
             have n4_ := Aside0.mk (blk_drew BK131.out)
             have n5_ := Aside0.mk (below_drew1 HB.out)
             clear HO_5
             clear HO_10
             clear BK104
             clear BK105
             clear BK131
             clear HB
             have HO_5 := n0_
             have HO_10 := n1_
             have BK104 := n2_
             have BK105 := n3_
             have BK131 := n4_
             have HB := n5_
             clear n0_ n1_ n2_ n3_ n4_ n5_
             refine start_ (n := 12) (S := fun w' => w'.cell? ⟨gb131, 0, none⟩ = some (.int .u32 x132000_3) ∧ w'.cell? ⟨gb131, 1, none⟩ = some (.int .u32 x132001_3) ∧ w'.cell? ⟨gb131, 2, none⟩ = some (.int .u32 x132002_3) ∧ w'.cell? ⟨gb131, 3, none⟩ = some (.int .u32 x132003_3) ∧ w'.cell? ⟨gb131, 4, none⟩ = some (.int .u32 x132004_3) ∧ w'.cell? ⟨gb131, 5, none⟩ = some (.int .u32 x132005_3) ∧ w'.cell? ⟨gb131, 6, none⟩ = some (.int .u32 x132006_3) ∧ w'.cell? ⟨gb131, 7, none⟩ = some (.int .u32 x132007_3)) (ds := []) #[false, false, false, false, false, false, false, false, false, false, false, false] (by kernel_rfl) rfl rfl ⟨(blk_cell BK131.out 0).trans rfl, (blk_cell BK131.out 1).trans rfl, (blk_cell BK131.out 2).trans rfl, (blk_cell BK131.out 3).trans rfl, (blk_cell BK131.out 4).trans rfl, (blk_cell BK131.out 5).trans rfl, (blk_cell BK131.out 6).trans rfl, (blk_cell BK131.out 7).trans rfl⟩ (fun hHeld => ?_); refine with_tabW hash_state_block.tab20 hash_state_block.bits20 (fun HT_ HW_ => ?_)
             generalize w75.drew = w76 at HO_5 HO_10 BK104 BK105 BK131 HB hHeld ⊢
             refine pure_ (i := 0) (N := some 154) (v := ?_) (a' := ?_) #[true, false, false, false, false, false, false, false, false, false, false, false] rfl rfl (any_of HT_.out (by kernel_rfl)) (fun _ _ _ h => h) (Or.inl ⟨by rfl, ?_⟩) ?_ ?_
             rotate_left; (intro w'; go_simp; with_reducible rfl); rotate_left; (simp only [Act.put, List.setIfInBounds_toArray, List.set_cons_zero, List.set_cons_succ, i64_w, i32_w]; rfl)
             refine pure_ (i := 3) (N := some 157) (v := ?_) (a' := ?_) #[true, false, false, true, false, false, false, false, false, false, false, false] rfl rfl (any_of HT_.out (by kernel_rfl)) (fun _ _ _ h => h) (Or.inl ⟨by rfl, ?_⟩) ?_ ?_
             rotate_left; (intro w'; go_simp; with_reducible rfl); rotate_left; (simp only [Act.put, List.setIfInBounds_toArray, List.set_cons_zero, List.set_cons_succ, i64_w, i32_w]; rfl)
             refine pure_ (i := 7) (N := some 161) (v := ?_) (a' := ?_) #[true, false, false, true, false, false, false, true, false, false, false, false] rfl rfl (any_of HT_.out (by kernel_rfl)) (fun _ _ _ h => h) (Or.inl ⟨by rfl, ?_⟩) ?_ ?_
             rotate_left; (intro w'; go_simp; with_reducible rfl); rotate_left; (simp only [Act.put, List.setIfInBounds_toArray, List.set_cons_zero, List.set_cons_succ, i64_w, i32_w]; rfl)
             refine take_ (i := 1) (N := some 155) (v := ?_) (a' := ?_) #[true, true, false, true, false, false, false, true, false, false, false, false] rfl rfl (take_ofW HT_.out HW_.out (by kernel_rfl)) (fun _ _ _ h => h) (Or.inl ⟨by rfl, ?_⟩) hHeld ?_ ?_
             rotate_left; (rintro w' ⟨s0, s1, s2, s3, s4, s5, s6, s7⟩; go_simp; with_reducible rfl); rotate_left; (simp only [Act.put, List.setIfInBounds_toArray, List.set_cons_zero, List.set_cons_succ, i64_w, i32_w]; rfl)
             refine take_ (i := 4) (N := some 158) (v := ?_) (a' := ?_) #[true, true, false, true, true, false, false, true, false, false, false, false] rfl rfl (take_ofW HT_.out HW_.out (by kernel_rfl)) (fun _ _ _ h => h) (Or.inl ⟨by rfl, ?_⟩) hHeld ?_ ?_
             rotate_left; (rintro w' ⟨s0, s1, s2, s3, s4, s5, s6, s7⟩; go_simp; with_reducible rfl); rotate_left; (simp only [Act.put, List.setIfInBounds_toArray, List.set_cons_zero, List.set_cons_succ, i64_w, i32_w]; rfl)
             refine take_ (i := 8) (N := some 162) (v := ?_) (a' := ?_) #[true, true, false, true, true, false, false, true, true, false, false, false] rfl rfl (take_ofW HT_.out HW_.out (by kernel_rfl)) (fun _ _ _ h => h) (Or.inl ⟨by rfl, ?_⟩) hHeld ?_ ?_
             rotate_left; (rintro w' ⟨s0, s1, s2, s3, s4, s5, s6, s7⟩; go_simp; with_reducible rfl); rotate_left; (simp only [Act.put, List.setIfInBounds_toArray, List.set_cons_zero, List.set_cons_succ, i64_w, i32_w]; rfl)
             refine one_ (i := 2) (N := some 156) #[true, true, true, true, true, false, false, true, true, false, false, false] rfl rfl (one_of HT_.out (by kernel_rfl)) (by decide) (fun K hK => ?_)
             refine goes_ Try.func27 (by kernel_rfl) rfl #[.int .u32 x132000_3, .int .u64 2] (by rfl) rfl rfl (by (try simp only [List.map_toArray, List.map_cons, List.map_nil]); first | done | rfl | (simp only [List.length_drop, List.length_take]; rfl)) ?_
             with_reducible refine (hash_turn.calls x132000_3 2 t137 _ A68.out).mono ?_
             rintro e w' ⟨rfl, ⟨nd, rfl⟩⟩
             refine ⟨_, rfl, ?_⟩
             refine hK.out _ _ ⟨(blk_cell BK131.out 0).trans rfl, (blk_cell BK131.out 1).trans rfl, (blk_cell BK131.out 2).trans rfl, (blk_cell BK131.out 3).trans rfl, (blk_cell BK131.out 4).trans rfl, (blk_cell BK131.out 5).trans rfl, (blk_cell BK131.out 6).trans rfl, (blk_cell BK131.out 7).trans rfl⟩ (fun hHeld => ?_)
             clear hK K
             refine norm_ (a' := ?_) ?_ ?_
             rotate_left
             ·show Act.put _ (some 156) _ = _
              simp only [Act.put, List.setIfInBounds_toArray, List.set_cons_zero, List.set_cons_succ, i64_w, i32_w]
              rfl
             refine one_ (i := 5) (N := some 159) #[true, true, true, true, true, true, false, true, true, false, false, false] rfl rfl (one_of HT_.out (by kernel_rfl)) (by decide) (fun K hK => ?_)
             refine goes_ Try.func27 (by kernel_rfl) rfl #[.int .u32 x132000_3, .int .u64 13] (by rfl) rfl rfl (by (try simp only [List.map_toArray, List.map_cons, List.map_nil]); first | done | rfl | (simp only [List.length_drop, List.length_take]; rfl)) ?_
             with_reducible refine (hash_turn.calls x132000_3 13 t138 _ A69.out).mono ?_
             rintro e w' ⟨rfl, ⟨nd, rfl⟩⟩
             refine ⟨_, rfl, ?_⟩
             refine hK.out _ _ ⟨(blk_cell BK131.out 0).trans rfl, (blk_cell BK131.out 1).trans rfl, (blk_cell BK131.out 2).trans rfl, (blk_cell BK131.out 3).trans rfl, (blk_cell BK131.out 4).trans rfl, (blk_cell BK131.out 5).trans rfl, (blk_cell BK131.out 6).trans rfl, (blk_cell BK131.out 7).trans rfl⟩ (fun hHeld => ?_)
             clear hK K
             refine norm_ (a' := ?_) ?_ ?_
             rotate_left
             ·show Act.put _ (some 159) _ = _
              simp only [Act.put, List.setIfInBounds_toArray, List.set_cons_zero, List.set_cons_succ, i64_w, i32_w]
              rfl
             refine pure_ (i := 6) (N := some 160) (v := ?_) (a' := ?_) #[true, true, true, true, true, true, true, true, true, false, false, false] rfl rfl (any_of HT_.out (by kernel_rfl)) (fun _ _ _ h => h) (Or.inl ⟨by rfl, ?_⟩) ?_ ?_
             rotate_left; (intro w'; go_simp; with_reducible rfl); rotate_left; (simp only [Act.put, List.setIfInBounds_toArray, List.set_cons_zero, List.set_cons_succ, i64_w, i32_w]; rfl)
             refine one_ (i := 9) (N := some 163) #[true, true, true, true, true, true, true, true, true, true, false, false] rfl rfl (one_of HT_.out (by kernel_rfl)) (by decide) (fun K hK => ?_)
             refine goes_ Try.func27 (by kernel_rfl) rfl #[.int .u32 x132000_3, .int .u64 22] (by rfl) rfl rfl (by (try simp only [List.map_toArray, List.map_cons, List.map_nil]); first | done | rfl | (simp only [List.length_drop, List.length_take]; rfl)) ?_
             with_reducible refine (hash_turn.calls x132000_3 22 t139 _ A70.out).mono ?_
             rintro e w' ⟨rfl, ⟨nd, rfl⟩⟩
             refine ⟨_, rfl, ?_⟩
             refine hK.out _ _ ⟨(blk_cell BK131.out 0).trans rfl, (blk_cell BK131.out 1).trans rfl, (blk_cell BK131.out 2).trans rfl, (blk_cell BK131.out 3).trans rfl, (blk_cell BK131.out 4).trans rfl, (blk_cell BK131.out 5).trans rfl, (blk_cell BK131.out 6).trans rfl, (blk_cell BK131.out 7).trans rfl⟩ (fun hHeld => ?_)
             clear hK K
             refine norm_ (a' := ?_) ?_ ?_
             rotate_left
             ·show Act.put _ (some 163) _ = _
              simp only [Act.put, List.setIfInBounds_toArray, List.set_cons_zero, List.set_cons_succ, i64_w, i32_w]
              rfl
             refine pure_ (i := 10) (N := some 164) (v := ?_) (a' := ?_) #[true, true, true, true, true, true, true, true, true, true, true, false] rfl rfl (any_of HT_.out (by kernel_rfl)) (fun _ _ _ h => h) (Or.inl ⟨by rfl, ?_⟩) ?_ ?_
             rotate_left; (intro w'; go_simp; with_reducible rfl); rotate_left; (simp only [Act.put, List.setIfInBounds_toArray, List.set_cons_zero, List.set_cons_succ, i64_w, i32_w]; rfl)
             refine pure_ (i := 11) (N := some 16) (v := ?_) (a' := ?_) #[true, true, true, true, true, true, true, true, true, true, true, true] rfl rfl (any_of HT_.out (by kernel_rfl)) (fun _ _ _ h => h) (Or.inl ⟨by rfl, ?_⟩) ?_ ?_
             rotate_left; (intro w'; go_simp; with_reducible rfl); rotate_left; (simp only [Act.put, List.setIfInBounds_toArray, List.set_cons_zero, List.set_cons_succ, i64_w, i32_w]; rfl)
             refine done_ (done_of HT_.out (by kernel_rfl)) ?_
             have hcz77_0 : w76.cell? ⟨gb131, 0, none⟩ = some (.int .u32 x132000_3) := (blk_cell BK131.out 0).trans rfl
             have hcz77_1 : w76.cell? ⟨gb131, 1, none⟩ = some (.int .u32 x132001_3) := (blk_cell BK131.out 1).trans rfl
             have hcz77_2 : w76.cell? ⟨gb131, 2, none⟩ = some (.int .u32 x132002_3) := (blk_cell BK131.out 2).trans rfl
             have hcz77_3 : w76.cell? ⟨gb131, 3, none⟩ = some (.int .u32 x132003_3) := (blk_cell BK131.out 3).trans rfl
             have hcz77_4 : w76.cell? ⟨gb131, 4, none⟩ = some (.int .u32 x132004_3) := (blk_cell BK131.out 4).trans rfl
             have hcz77_5 : w76.cell? ⟨gb131, 5, none⟩ = some (.int .u32 x132005_3) := (blk_cell BK131.out 5).trans rfl
             have hcz77_6 : w76.cell? ⟨gb131, 6, none⟩ = some (.int .u32 x132006_3) := (blk_cell BK131.out 6).trans rfl
             have hcz77_7 : w76.cell? ⟨gb131, 7, none⟩ = some (.int .u32 x132007_3) := (blk_cell BK131.out 7).trans rfl
             have hfz77_0 := blk_frozen BK131.out 0
             have hfz77_1 := blk_frozen BK131.out 1
             have hfz77_2 := blk_frozen BK131.out 2
             have hfz77_3 := blk_frozen BK131.out 3
             have hfz77_4 := blk_frozen BK131.out 4
             have hfz77_5 := blk_frozen BK131.out 5
             have hfz77_6 := blk_frozen BK131.out 6
             have hfz77_7 := blk_frozen BK131.out 7
             try go_wp2
             go_roundg k3
             case measure => have := HK1.out; have := HK2.out; have := HK3.out; omega
             case rel => exact ⟨(wrap64 (x12_3 + 1)), (((((((x132007_3 + (Go.bits .xor .u32 (Go.bits .xor .u32 t132 t133) t134)) + (Go.bits .xor .u32 (Go.bits .and .u32 x132004_3 x132005_3) (Go.bits .and .u32 (Go.bits .xor .u32 4294967295 x132004_3) x132006_3))) + (rd y128 x12_3)) + (rd x5_2 x12_3)) + (Go.bits .xor .u32 (Go.bits .xor .u32 t137 t138) t139)) + (Go.bits .xor .u32 (Go.bits .xor .u32 (Go.bits .and .u32 x132000_3 x132001_3) (Go.bits .and .u32 x132000_3 x132002_3)) (Go.bits .and .u32 x132001_3 x132002_3))) % 4294967296), (x132000_3), (x132001_3), (x132002_3), ((x132003_3 + ((((x132007_3 + (Go.bits .xor .u32 (Go.bits .xor .u32 t132 t133) t134)) + (Go.bits .xor .u32 (Go.bits .and .u32 x132004_3 x132005_3) (Go.bits .and .u32 (Go.bits .xor .u32 4294967295 x132004_3) x132006_3))) + (rd y128 x12_3)) + (rd x5_2 x12_3))) % 4294967296), (x132004_3), (x132005_3), (x132006_3), (by first | rfl | (simp; done) | (simp [*]; done)), H', ⟨by have := HK1.out; have := HK2.out; have := HK3.out; omega⟩, ⟨by (with_reducible repeat (first | apply Kd.R_alloc | apply Kd.R_drewN | apply Kd.R_drew)); exact Kd.R_mono (Kd.R_far (p := ⟨gb131, 7, none⟩) (Kd.R_far (p := ⟨gb131, 6, none⟩) (Kd.R_far (p := ⟨gb131, 5, none⟩) (Kd.R_far (p := ⟨gb131, 4, none⟩) (Kd.R_far (p := ⟨gb131, 3, none⟩) (Kd.R_far (p := ⟨gb131, 2, none⟩) (Kd.R_far (p := ⟨gb131, 1, none⟩) (Kd.R_far (p := ⟨gb131, 0, none⟩) (Kd.R_types HO_5.out BK131.out (by decide)) (fun _ hk => hk.2) (.int .u32 (((((((x132007_3 + (Go.bits .xor .u32 (Go.bits .xor .u32 t132 t133) t134)) + (Go.bits .xor .u32 (Go.bits .and .u32 x132004_3 x132005_3) (Go.bits .and .u32 (Go.bits .xor .u32 4294967295 x132004_3) x132006_3))) + (rd y128 x12_3)) + (rd x5_2 x12_3)) + (Go.bits .xor .u32 (Go.bits .xor .u32 t137 t138) t139)) + (Go.bits .xor .u32 (Go.bits .xor .u32 (Go.bits .and .u32 x132000_3 x132001_3) (Go.bits .and .u32 x132000_3 x132002_3)) (Go.bits .and .u32 x132001_3 x132002_3))) % 4294967296))) (fun _ hk => hk.2) (.int .u32 x132000_3)) (fun _ hk => hk.2) (.int .u32 x132001_3)) (fun _ hk => hk.2) (.int .u32 x132002_3)) (fun _ hk => hk.2) (.int .u32 ((x132003_3 + ((((x132007_3 + (Go.bits .xor .u32 (Go.bits .xor .u32 t132 t133) t134)) + (Go.bits .xor .u32 (Go.bits .and .u32 x132004_3 x132005_3) (Go.bits .and .u32 (Go.bits .xor .u32 4294967295 x132004_3) x132006_3))) + (rd y128 x12_3)) + (rd x5_2 x12_3))) % 4294967296))) (fun _ hk => hk.2) (.int .u32 x132004_3)) (fun _ hk => hk.2) (.int .u32 x132005_3)) (fun _ hk => hk.2) (.int .u32 x132006_3)) (fun _ hk => hk.1)⟩, ⟨by (with_reducible repeat (first | apply Kd.R_alloc | apply Kd.R_drewN | apply Kd.R_drew)); exact Kd.R_mono (Kd.R_far (p := ⟨gb131, 7, none⟩) (Kd.R_far (p := ⟨gb131, 6, none⟩) (Kd.R_far (p := ⟨gb131, 5, none⟩) (Kd.R_far (p := ⟨gb131, 4, none⟩) (Kd.R_far (p := ⟨gb131, 3, none⟩) (Kd.R_far (p := ⟨gb131, 2, none⟩) (Kd.R_far (p := ⟨gb131, 1, none⟩) (Kd.R_far (p := ⟨gb131, 0, none⟩) (Kd.R_types HO_10.out BK131.out (by decide)) (fun _ hk => hk.2) (.int .u32 (((((((x132007_3 + (Go.bits .xor .u32 (Go.bits .xor .u32 t132 t133) t134)) + (Go.bits .xor .u32 (Go.bits .and .u32 x132004_3 x132005_3) (Go.bits .and .u32 (Go.bits .xor .u32 4294967295 x132004_3) x132006_3))) + (rd y128 x12_3)) + (rd x5_2 x12_3)) + (Go.bits .xor .u32 (Go.bits .xor .u32 t137 t138) t139)) + (Go.bits .xor .u32 (Go.bits .xor .u32 (Go.bits .and .u32 x132000_3 x132001_3) (Go.bits .and .u32 x132000_3 x132002_3)) (Go.bits .and .u32 x132001_3 x132002_3))) % 4294967296))) (fun _ hk => hk.2) (.int .u32 x132000_3)) (fun _ hk => hk.2) (.int .u32 x132001_3)) (fun _ hk => hk.2) (.int .u32 x132002_3)) (fun _ hk => hk.2) (.int .u32 ((x132003_3 + ((((x132007_3 + (Go.bits .xor .u32 (Go.bits .xor .u32 t132 t133) t134)) + (Go.bits .xor .u32 (Go.bits .and .u32 x132004_3 x132005_3) (Go.bits .and .u32 (Go.bits .xor .u32 4294967295 x132004_3) x132006_3))) + (rd y128 x12_3)) + (rd x5_2 x12_3))) % 4294967296))) (fun _ hk => hk.2) (.int .u32 x132004_3)) (fun _ hk => hk.2) (.int .u32 x132005_3)) (fun _ hk => hk.2) (.int .u32 x132006_3)) (fun _ hk => hk.1)⟩, ⟨by (with_reducible repeat (first | refine blk_drewN ?_ _ | refine blk_drew ?_ | refine blk_alloc ?_ _)); refine blk_far ?_ NB104_131.out _; (with_reducible repeat (first | refine blk_drewN ?_ _ | refine blk_drew ?_ | refine blk_alloc ?_ _)); refine blk_far ?_ NB104_131.out _; (with_reducible repeat (first | refine blk_drewN ?_ _ | refine blk_drew ?_ | refine blk_alloc ?_ _)); refine blk_far ?_ NB104_131.out _; (with_reducible repeat (first | refine blk_drewN ?_ _ | refine blk_drew ?_ | refine blk_alloc ?_ _)); refine blk_far ?_ NB104_131.out _; (with_reducible repeat (first | refine blk_drewN ?_ _ | refine blk_drew ?_ | refine blk_alloc ?_ _)); refine blk_far ?_ NB104_131.out _; (with_reducible repeat (first | refine blk_drewN ?_ _ | refine blk_drew ?_ | refine blk_alloc ?_ _)); refine blk_far ?_ NB104_131.out _; (with_reducible repeat (first | refine blk_drewN ?_ _ | refine blk_drew ?_ | refine blk_alloc ?_ _)); refine blk_far ?_ NB104_131.out _; (with_reducible repeat (first | refine blk_drewN ?_ _ | refine blk_drew ?_ | refine blk_alloc ?_ _)); refine blk_far ?_ NB104_131.out _; (with_reducible repeat (first | refine blk_drewN ?_ _ | refine blk_drew ?_ | refine blk_alloc ?_ _)); exact BK104.out⟩, ⟨by (with_reducible repeat (first | refine blk_drewN ?_ _ | refine blk_drew ?_ | refine blk_alloc ?_ _)); refine blk_far ?_ NB105_131.out _; (with_reducible repeat (first | refine blk_drewN ?_ _ | refine blk_drew ?_ | refine blk_alloc ?_ _)); refine blk_far ?_ NB105_131.out _; (with_reducible repeat (first | refine blk_drewN ?_ _ | refine blk_drew ?_ | refine blk_alloc ?_ _)); refine blk_far ?_ NB105_131.out _; (with_reducible repeat (first | refine blk_drewN ?_ _ | refine blk_drew ?_ | refine blk_alloc ?_ _)); refine blk_far ?_ NB105_131.out _; (with_reducible repeat (first | refine blk_drewN ?_ _ | refine blk_drew ?_ | refine blk_alloc ?_ _)); refine blk_far ?_ NB105_131.out _; (with_reducible repeat (first | refine blk_drewN ?_ _ | refine blk_drew ?_ | refine blk_alloc ?_ _)); refine blk_far ?_ NB105_131.out _; (with_reducible repeat (first | refine blk_drewN ?_ _ | refine blk_drew ?_ | refine blk_alloc ?_ _)); refine blk_far ?_ NB105_131.out _; (with_reducible repeat (first | refine blk_drewN ?_ _ | refine blk_drew ?_ | refine blk_alloc ?_ _)); refine blk_far ?_ NB105_131.out _; (with_reducible repeat (first | refine blk_drewN ?_ _ | refine blk_drew ?_ | refine blk_alloc ?_ _)); exact BK105.out⟩, ⟨by (with_reducible repeat (first | refine blk_drewN ?_ _ | refine blk_drew ?_ | refine blk_alloc ?_ _)); refine blk_put (cs := #[.int .u32 (((((((x132007_3 + (Go.bits .xor .u32 (Go.bits .xor .u32 t132 t133) t134)) + (Go.bits .xor .u32 (Go.bits .and .u32 x132004_3 x132005_3) (Go.bits .and .u32 (Go.bits .xor .u32 4294967295 x132004_3) x132006_3))) + (rd y128 x12_3)) + (rd x5_2 x12_3)) + (Go.bits .xor .u32 (Go.bits .xor .u32 t137 t138) t139)) + (Go.bits .xor .u32 (Go.bits .xor .u32 (Go.bits .and .u32 x132000_3 x132001_3) (Go.bits .and .u32 x132000_3 x132002_3)) (Go.bits .and .u32 x132001_3 x132002_3))) % 4294967296), .int .u32 x132000_3, .int .u32 x132001_3, .int .u32 x132002_3, .int .u32 ((x132003_3 + ((((x132007_3 + (Go.bits .xor .u32 (Go.bits .xor .u32 t132 t133) t134)) + (Go.bits .xor .u32 (Go.bits .and .u32 x132004_3 x132005_3) (Go.bits .and .u32 (Go.bits .xor .u32 4294967295 x132004_3) x132006_3))) + (rd y128 x12_3)) + (rd x5_2 x12_3))) % 4294967296), .int .u32 x132004_3, .int .u32 x132005_3, .int .u32 x132007_3]) ?_ 7 _ rfl; (with_reducible repeat (first | refine blk_drewN ?_ _ | refine blk_drew ?_ | refine blk_alloc ?_ _)); refine blk_put (cs := #[.int .u32 (((((((x132007_3 + (Go.bits .xor .u32 (Go.bits .xor .u32 t132 t133) t134)) + (Go.bits .xor .u32 (Go.bits .and .u32 x132004_3 x132005_3) (Go.bits .and .u32 (Go.bits .xor .u32 4294967295 x132004_3) x132006_3))) + (rd y128 x12_3)) + (rd x5_2 x12_3)) + (Go.bits .xor .u32 (Go.bits .xor .u32 t137 t138) t139)) + (Go.bits .xor .u32 (Go.bits .xor .u32 (Go.bits .and .u32 x132000_3 x132001_3) (Go.bits .and .u32 x132000_3 x132002_3)) (Go.bits .and .u32 x132001_3 x132002_3))) % 4294967296), .int .u32 x132000_3, .int .u32 x132001_3, .int .u32 x132002_3, .int .u32 ((x132003_3 + ((((x132007_3 + (Go.bits .xor .u32 (Go.bits .xor .u32 t132 t133) t134)) + (Go.bits .xor .u32 (Go.bits .and .u32 x132004_3 x132005_3) (Go.bits .and .u32 (Go.bits .xor .u32 4294967295 x132004_3) x132006_3))) + (rd y128 x12_3)) + (rd x5_2 x12_3))) % 4294967296), .int .u32 x132004_3, .int .u32 x132006_3, .int .u32 x132007_3]) ?_ 6 _ rfl; (with_reducible repeat (first | refine blk_drewN ?_ _ | refine blk_drew ?_ | refine blk_alloc ?_ _)); refine blk_put (cs := #[.int .u32 (((((((x132007_3 + (Go.bits .xor .u32 (Go.bits .xor .u32 t132 t133) t134)) + (Go.bits .xor .u32 (Go.bits .and .u32 x132004_3 x132005_3) (Go.bits .and .u32 (Go.bits .xor .u32 4294967295 x132004_3) x132006_3))) + (rd y128 x12_3)) + (rd x5_2 x12_3)) + (Go.bits .xor .u32 (Go.bits .xor .u32 t137 t138) t139)) + (Go.bits .xor .u32 (Go.bits .xor .u32 (Go.bits .and .u32 x132000_3 x132001_3) (Go.bits .and .u32 x132000_3 x132002_3)) (Go.bits .and .u32 x132001_3 x132002_3))) % 4294967296), .int .u32 x132000_3, .int .u32 x132001_3, .int .u32 x132002_3, .int .u32 ((x132003_3 + ((((x132007_3 + (Go.bits .xor .u32 (Go.bits .xor .u32 t132 t133) t134)) + (Go.bits .xor .u32 (Go.bits .and .u32 x132004_3 x132005_3) (Go.bits .and .u32 (Go.bits .xor .u32 4294967295 x132004_3) x132006_3))) + (rd y128 x12_3)) + (rd x5_2 x12_3))) % 4294967296), .int .u32 x132005_3, .int .u32 x132006_3, .int .u32 x132007_3]) ?_ 5 _ rfl; (with_reducible repeat (first | refine blk_drewN ?_ _ | refine blk_drew ?_ | refine blk_alloc ?_ _)); refine blk_put (cs := #[.int .u32 (((((((x132007_3 + (Go.bits .xor .u32 (Go.bits .xor .u32 t132 t133) t134)) + (Go.bits .xor .u32 (Go.bits .and .u32 x132004_3 x132005_3) (Go.bits .and .u32 (Go.bits .xor .u32 4294967295 x132004_3) x132006_3))) + (rd y128 x12_3)) + (rd x5_2 x12_3)) + (Go.bits .xor .u32 (Go.bits .xor .u32 t137 t138) t139)) + (Go.bits .xor .u32 (Go.bits .xor .u32 (Go.bits .and .u32 x132000_3 x132001_3) (Go.bits .and .u32 x132000_3 x132002_3)) (Go.bits .and .u32 x132001_3 x132002_3))) % 4294967296), .int .u32 x132000_3, .int .u32 x132001_3, .int .u32 x132002_3, .int .u32 x132004_3, .int .u32 x132005_3, .int .u32 x132006_3, .int .u32 x132007_3]) ?_ 4 _ rfl; (with_reducible repeat (first | refine blk_drewN ?_ _ | refine blk_drew ?_ | refine blk_alloc ?_ _)); refine blk_put (cs := #[.int .u32 (((((((x132007_3 + (Go.bits .xor .u32 (Go.bits .xor .u32 t132 t133) t134)) + (Go.bits .xor .u32 (Go.bits .and .u32 x132004_3 x132005_3) (Go.bits .and .u32 (Go.bits .xor .u32 4294967295 x132004_3) x132006_3))) + (rd y128 x12_3)) + (rd x5_2 x12_3)) + (Go.bits .xor .u32 (Go.bits .xor .u32 t137 t138) t139)) + (Go.bits .xor .u32 (Go.bits .xor .u32 (Go.bits .and .u32 x132000_3 x132001_3) (Go.bits .and .u32 x132000_3 x132002_3)) (Go.bits .and .u32 x132001_3 x132002_3))) % 4294967296), .int .u32 x132000_3, .int .u32 x132001_3, .int .u32 x132003_3, .int .u32 x132004_3, .int .u32 x132005_3, .int .u32 x132006_3, .int .u32 x132007_3]) ?_ 3 _ rfl; (with_reducible repeat (first | refine blk_drewN ?_ _ | refine blk_drew ?_ | refine blk_alloc ?_ _)); refine blk_put (cs := #[.int .u32 (((((((x132007_3 + (Go.bits .xor .u32 (Go.bits .xor .u32 t132 t133) t134)) + (Go.bits .xor .u32 (Go.bits .and .u32 x132004_3 x132005_3) (Go.bits .and .u32 (Go.bits .xor .u32 4294967295 x132004_3) x132006_3))) + (rd y128 x12_3)) + (rd x5_2 x12_3)) + (Go.bits .xor .u32 (Go.bits .xor .u32 t137 t138) t139)) + (Go.bits .xor .u32 (Go.bits .xor .u32 (Go.bits .and .u32 x132000_3 x132001_3) (Go.bits .and .u32 x132000_3 x132002_3)) (Go.bits .and .u32 x132001_3 x132002_3))) % 4294967296), .int .u32 x132000_3, .int .u32 x132002_3, .int .u32 x132003_3, .int .u32 x132004_3, .int .u32 x132005_3, .int .u32 x132006_3, .int .u32 x132007_3]) ?_ 2 _ rfl; (with_reducible repeat (first | refine blk_drewN ?_ _ | refine blk_drew ?_ | refine blk_alloc ?_ _)); refine blk_put (cs := #[.int .u32 (((((((x132007_3 + (Go.bits .xor .u32 (Go.bits .xor .u32 t132 t133) t134)) + (Go.bits .xor .u32 (Go.bits .and .u32 x132004_3 x132005_3) (Go.bits .and .u32 (Go.bits .xor .u32 4294967295 x132004_3) x132006_3))) + (rd y128 x12_3)) + (rd x5_2 x12_3)) + (Go.bits .xor .u32 (Go.bits .xor .u32 t137 t138) t139)) + (Go.bits .xor .u32 (Go.bits .xor .u32 (Go.bits .and .u32 x132000_3 x132001_3) (Go.bits .and .u32 x132000_3 x132002_3)) (Go.bits .and .u32 x132001_3 x132002_3))) % 4294967296), .int .u32 x132001_3, .int .u32 x132002_3, .int .u32 x132003_3, .int .u32 x132004_3, .int .u32 x132005_3, .int .u32 x132006_3, .int .u32 x132007_3]) ?_ 1 _ rfl; (with_reducible repeat (first | refine blk_drewN ?_ _ | refine blk_drew ?_ | refine blk_alloc ?_ _)); refine blk_put (cs := #[.int .u32 x132000_3, .int .u32 x132001_3, .int .u32 x132002_3, .int .u32 x132003_3, .int .u32 x132004_3, .int .u32 x132005_3, .int .u32 x132006_3, .int .u32 x132007_3]) ?_ 0 _ rfl; (with_reducible repeat (first | refine blk_drewN ?_ _ | refine blk_drew ?_ | refine blk_alloc ?_ _)); exact BK131.out⟩, ⟨by repeat (first | (with_reducible first | exact HB.out | apply below_alloc | apply pw_below_drewN | apply below_drew1 | refine below_set ?_ GE104.out | refine below_set ?_ GE105.out | refine below_set ?_ GE131.out) | exact HB.out)⟩⟩
            ·rw [if_neg c67] at H
             exact absurd H (by simp)
           ·rw [if_neg c66] at H
            exact absurd H (by simp)
          ·rw [if_neg c62] at H
           have c62b0 : decide (x12_3 < 64) = false := decide_eq_false c62
           clear c62
           have H' := Aside0.mk H
           clear H
           go_wp2
           go_loopg [204] k3 (fun kq v204 w' => ∃ (x204_4 : Int) (x132000_4 x132001_4 x132002_4 x132003_4 x132004_4 x132005_4 x132006_4 x132007_4 : Int), v204 = .int .i64 x204_4 ∧ Aside0 (hash_state_block.l3 kq x204_4 a0_0 a0_1 a0_2 a0_3 a0_4 a0_5 a0_6 a0_7 x132000_4 x132001_4 x132002_4 x132003_4 x132004_4 x132005_4 x132006_4 x132007_4 = some (r1, r2, r3, r4, r5, r6, r7, r8)) ∧ Aside0 (kq ≤ k3) ∧ Aside0 (w'.heap[gb104]? = some (.cells #[.int .u32 a0_0, .int .u32 a0_1, .int .u32 a0_2, .int .u32 a0_3, .int .u32 a0_4, .int .u32 a0_5, .int .u32 a0_6, .int .u32 a0_7] 37 (0, 0))) ∧ Aside0 (w'.heap[gb105]? = some (.cells #[.int .u32 0, .int .u32 0, .int .u32 0, .int .u32 0, .int .u32 0, .int .u32 0, .int .u32 0, .int .u32 0] 37 (0, 0))) ∧ Aside0 (w'.heap[gb131]? = some (.cells #[.int .u32 x132000_4, .int .u32 x132001_4, .int .u32 x132002_4, .int .u32 x132003_4, .int .u32 x132004_4, .int .u32 x132005_4, .int .u32 x132006_4, .int .u32 x132007_4] 37 (0, 0))) ∧ Aside0 (Below w.heap.size w w'))
           case atStart => exact ⟨(0), x132000_3, x132001_3, x132002_3, x132003_3, x132004_3, x132005_3, x132006_3, x132007_3, (by first | rfl | (simp; done) | (simp [*]; done)), H', ⟨Nat.le_refl _⟩, ⟨by (with_reducible repeat (first | refine blk_drewN ?_ _ | refine blk_drew ?_ | refine blk_alloc ?_ _)); exact BK104.out⟩, ⟨by (with_reducible repeat (first | refine blk_drewN ?_ _ | refine blk_drew ?_ | refine blk_alloc ?_ _)); exact BK105.out⟩, ⟨by (with_reducible repeat (first | refine blk_drewN ?_ _ | refine blk_drew ?_ | refine blk_alloc ?_ _)); exact BK131.out⟩, ⟨by repeat (first | (with_reducible first | exact HB.out | apply below_alloc | apply pw_below_drewN | apply below_drew1 | refine below_set ?_ GE104.out | refine below_set ?_ GE105.out | refine below_set ?_ GE131.out) | exact HB.out)⟩⟩
           case round =>
            clear H'
            try clear p1
            try clear q1
            try clear hx1
            try clear c2
            try clear p2
            try clear c4
            try clear p4
            try clear q4
            try clear hx4
            try clear hf4
            try clear c5
            try clear c6
            try clear p6
            try clear c7
            try clear p11
            try clear q11
            try clear hx11
            try clear p12
            try clear q12
            try clear hx12
            try clear p13
            try clear q13
            try clear hx13
            try clear c27
            try clear c41
            try clear c42
            try clear c43
            try clear c44
            try clear p45
            try clear q45
            try clear hx45
            try clear hf45
            try clear c51
            try clear c51b0
            try clear c51b1
            try clear c56
            try clear c59
            try clear c60
            try clear c62
            try clear c62b0
            try clear p64
            try clear c66
            try clear c66b0
            try clear c67
            try clear c67b0
            try clear c72
            try clear c73
            try clear hcz57_0
            try clear hcz57_1
            try clear hcz57_2
            try clear hcz57_3
            try clear hcz57_4
            try clear hcz57_5
            try clear hcz57_6
            try clear hcz57_7
            try clear hcz61_0
            try clear hcz61_1
            try clear hcz61_2
            try clear hcz61_3
            try clear hcz61_4
            try clear hcz61_5
            try clear hcz61_6
            try clear hcz61_7
            try clear hcz74_0
            try clear hcz74_1
            try clear hcz74_2
            try clear hcz74_3
            try clear hcz74_4
            try clear hcz74_5
            try clear hcz74_6
            try clear hcz74_7
            try clear hcz77_0
            try clear hcz77_1
            try clear hcz77_2
            try clear hcz77_3
            try clear hcz77_4
            try clear hcz77_5
            try clear hcz77_6
            try clear hcz77_7
            try clear hfz57_0
            try clear hfz57_1
            try clear hfz57_2
            try clear hfz57_3
            try clear hfz57_4
            try clear hfz57_5
            try clear hfz57_6
            try clear hfz57_7
            try clear hfz61_0
            try clear hfz61_1
            try clear hfz61_2
            try clear hfz61_3
            try clear hfz61_4
            try clear hfz61_5
            try clear hfz61_6
            try clear hfz61_7
            try clear hfz74_0
            try clear hfz74_1
            try clear hfz74_2
            try clear hfz74_3
            try clear hfz74_4
            try clear hfz74_5
            try clear hfz74_6
            try clear hfz74_7
            try clear hfz77_0
            try clear hfz77_1
            try clear hfz77_2
            try clear hfz77_3
            try clear hfz77_4
            try clear hfz77_5
            try clear hfz77_6
            try clear hfz77_7
            try clear hx114_0
            try clear hx116_0
            try clear hx118_0
            try clear hx119_0
            try clear hx121_0
            try clear hx123_0
            try clear hx124_0
            try clear hx125_0
            try clear hx135_0
            try clear hx136_0
            try clear hx45_0
            try clear p114
            try clear p116
            try clear p118
            try clear p119
            try clear p121
            try clear p123
            try clear p124
            try clear p125
            try clear p135
            try clear p136
            try clear p45
            try clear q114
            try clear q116
            try clear q118
            try clear q119
            try clear q121
            try clear q123
            try clear q124
            try clear q125
            try clear q135
            try clear q136
            try clear q45
            obtain ⟨x204_4, x132000_4, x132001_4, x132002_4, x132003_4, x132004_4, x132005_4, x132006_4, x132007_4, rfl, HA, HK4, BK104, BK105, BK131, HB⟩ := hrel
            cases gk with
            | zero => exact absurd HA.out (by simp [hash_state_block.l3])
            | succ k4 =>
             have H := HA.out
             clear HA
             simp only [hash_state_block.l3] at H
             by_cases c78 : x204_4 < 8
             ·rw [if_pos c78] at H
              have c78b0 : decide (x204_4 < 8) = true := decide_eq_true c78
              clear c78
              by_cases c79 : x204_4 = 0
              ·rw [if_pos c79] at H
               subst c79
               rw [show wrap64 (0 + 1) = 1 from by unfold wrap64; decide] at H
               have H' := Aside0.mk H
               clear H
               try go_wp2
               have n0_ := Aside0.mk (blk_drew BK104.out)
               have n1_ := Aside0.mk (blk_drew BK105.out)
               have n2_ := Aside0.mk (blk_drew BK131.out)
               have n3_ := Aside0.mk (below_drew1 HB.out)
               clear BK104
               clear BK105
               clear BK131
               clear HB
               have BK104 := n0_
               have BK105 := n1_
               have BK131 := n2_
               have HB := n3_
               clear n0_ n1_ n2_ n3_
               refine start_ (n := 9) (S := fun w' => w'.cell? ⟨gb131, 0, none⟩ = some (.int .u32 x132000_4) ∧ w'.cell? ⟨gb131, 1, none⟩ = some (.int .u32 x132001_4) ∧ w'.cell? ⟨gb131, 2, none⟩ = some (.int .u32 x132002_4) ∧ w'.cell? ⟨gb131, 3, none⟩ = some (.int .u32 x132003_4) ∧ w'.cell? ⟨gb131, 4, none⟩ = some (.int .u32 x132004_4) ∧ w'.cell? ⟨gb131, 5, none⟩ = some (.int .u32 x132005_4) ∧ w'.cell? ⟨gb131, 6, none⟩ = some (.int .u32 x132006_4) ∧ w'.cell? ⟨gb131, 7, none⟩ = some (.int .u32 x132007_4) ∧ w'.cell? ⟨gb104, 0, none⟩ = some (.int .u32 a0_0) ∧ w'.cell? ⟨gb104, 1, none⟩ = some (.int .u32 a0_1) ∧ w'.cell? ⟨gb104, 2, none⟩ = some (.int .u32 a0_2) ∧ w'.cell? ⟨gb104, 3, none⟩ = some (.int .u32 a0_3) ∧ w'.cell? ⟨gb104, 4, none⟩ = some (.int .u32 a0_4) ∧ w'.cell? ⟨gb104, 5, none⟩ = some (.int .u32 a0_5) ∧ w'.cell? ⟨gb104, 6, none⟩ = some (.int .u32 a0_6) ∧ w'.cell? ⟨gb104, 7, none⟩ = some (.int .u32 a0_7)) (ds := [8]) #[false, false, false, false, false, false, false, false, false] (by kernel_rfl) rfl rfl ⟨(blk_cell BK131.out 0).trans rfl, (blk_cell BK131.out 1).trans rfl, (blk_cell BK131.out 2).trans rfl, (blk_cell BK131.out 3).trans rfl, (blk_cell BK131.out 4).trans rfl, (blk_cell BK131.out 5).trans rfl, (blk_cell BK131.out 6).trans rfl, (blk_cell BK131.out 7).trans rfl, (blk_cell BK104.out 0).trans rfl, (blk_cell BK104.out 1).trans rfl, (blk_cell BK104.out 2).trans rfl, (blk_cell BK104.out 3).trans rfl, (blk_cell BK104.out 4).trans rfl, (blk_cell BK104.out 5).trans rfl, (blk_cell BK104.out 6).trans rfl, (blk_cell BK104.out 7).trans rfl⟩ (fun hHeld => ?_); refine with_tabW hash_state_block.tab26 hash_state_block.bits26 (fun HT_ HW_ => ?_)
               generalize wr.drew = w80 at BK104 BK105 BK131 HB hHeld ⊢
               refine pure_ (i := 0) (N := some 207) (v := ?_) (a' := ?_) #[true, false, false, false, false, false, false, false, false] rfl rfl (any_of HT_.out (by kernel_rfl)) (fun _ _ _ h => h) (Or.inl ⟨by rfl, ?_⟩) ?_ ?_
               rotate_left; (intro w'; go_simp; with_reducible rfl); rotate_left; (simp only [Act.put, List.setIfInBounds_toArray, List.set_cons_zero, List.set_cons_succ, i64_w, i32_w]; rfl)
               refine pure_ (i := 1) (N := some 208) (v := ?_) (a' := ?_) #[true, true, false, false, false, false, false, false, false] rfl rfl (any_of HT_.out (by kernel_rfl)) (fun _ _ _ h => h) (Or.inl ⟨by rfl, ?_⟩) ?_ ?_
               rotate_left; (intro w'; go_simp; with_reducible rfl); rotate_left; (simp only [Act.put, List.setIfInBounds_toArray, List.set_cons_zero, List.set_cons_succ, i64_w, i32_w]; rfl)
               refine pure_ (i := 3) (N := some 210) (v := ?_) (a' := ?_) #[true, true, false, true, false, false, false, false, false] rfl rfl (any_of HT_.out (by kernel_rfl)) (fun _ _ _ h => h) (Or.inl ⟨by rfl, ?_⟩) ?_ ?_
               rotate_left; (intro w'; go_simp; with_reducible rfl); rotate_left; (simp only [Act.put, List.setIfInBounds_toArray, List.set_cons_zero, List.set_cons_succ, i64_w, i32_w]; rfl)
               refine pure_ (i := 4) (N := some 211) (v := ?_) (a' := ?_) #[true, true, false, true, true, false, false, false, false] rfl rfl (any_of HT_.out (by kernel_rfl)) (fun _ _ _ h => h) (Or.inl ⟨by rfl, ?_⟩) ?_ ?_
               rotate_left; (intro w'; go_simp; with_reducible rfl); rotate_left; (simp only [Act.put, List.setIfInBounds_toArray, List.set_cons_zero, List.set_cons_succ, i64_w, i32_w]; rfl)
               refine take_ (i := 2) (N := some 209) (v := ?_) (a' := ?_) #[true, true, true, true, true, false, false, false, false] rfl rfl (take_ofW HT_.out HW_.out (by kernel_rfl)) (fun _ _ _ h => h) (Or.inl ⟨by rfl, ?_⟩) hHeld ?_ ?_
               rotate_left; (rintro w' ⟨s0, s1, s2, s3, s4, s5, s6, s7, s8, s9, s10, s11, s12, s13, s14, s15⟩; go_simp; with_reducible rfl); rotate_left; (simp only [Act.put, List.setIfInBounds_toArray, List.set_cons_zero, List.set_cons_succ, i64_w, i32_w]; rfl)
               refine take_ (i := 5) (N := some 212) (v := ?_) (a' := ?_) #[true, true, true, true, true, true, false, false, false] rfl rfl (take_ofW HT_.out HW_.out (by kernel_rfl)) (fun _ _ _ h => h) (Or.inl ⟨by rfl, ?_⟩) hHeld ?_ ?_
               rotate_left; (rintro w' ⟨s0, s1, s2, s3, s4, s5, s6, s7, s8, s9, s10, s11, s12, s13, s14, s15⟩; go_simp; with_reducible rfl); rotate_left; (simp only [Act.put, List.setIfInBounds_toArray, List.set_cons_zero, List.set_cons_succ, i64_w, i32_w]; rfl)
               refine pure_ (i := 6) (N := some 213) (v := ?_) (a' := ?_) #[true, true, true, true, true, true, true, false, false] rfl rfl (any_of HT_.out (by kernel_rfl)) (fun _ _ _ h => h) (Or.inl ⟨by rfl, ?_⟩) ?_ ?_
               rotate_left; (intro w'; go_simp; with_reducible rfl); rotate_left; (simp only [Act.put, List.setIfInBounds_toArray, List.set_cons_zero, List.set_cons_succ, i64_w, i32_w]; rfl)
               refine pure_ (i := 7) (N := some 214) (v := ?_) (a' := ?_) #[true, true, true, true, true, true, true, true, false] rfl rfl (any_of HT_.out (by kernel_rfl)) (fun _ _ _ h => h) (Or.inl ⟨by rfl, ?_⟩) ?_ ?_
               rotate_left; (intro w'; go_simp; with_reducible rfl); rotate_left; (simp only [Act.put, List.setIfInBounds_toArray, List.set_cons_zero, List.set_cons_succ, i64_w, i32_w]; rfl)
               refine last_ (i := 8) (N := none) #[true, true, true, true, true, true, true, true, true] rfl rfl (one_of HT_.out (by kernel_rfl)) (by decide) (fun K hK => ?_)
               have hs85 : w80.cell? ⟨gb131, 0, none⟩ = some (.int .u32 x132000_4) := (blk_cell BK131.out 0).trans rfl
               have hfs85 := blk_frozen BK131.out 0
               have hns85_0 := NB104_131.out
               have hns85_1 := NB105_131.out
               have hms85_0 := NB131_104.out
               have hms85_1 := NB131_105.out
               refine skip_ (w1 := ?_) (by rfl) rfl ?_ ?_
               rotate_left
               ·go_simp
                rfl
               refine hK.out _ _ ?_
               clear hK K
               refine done_ (done_of HT_.out (by kernel_rfl)) ?_
               try go_wp2
               go_roundg k4
               case measure => have := HK1.out; have := HK2.out; have := HK3.out; have := HK4.out; omega
               case rel => exact ⟨(1), ((x132000_4 + a0_0) % 4294967296), x132001_4, x132002_4, x132003_4, x132004_4, x132005_4, x132006_4, x132007_4, (by first | rfl | (simp; done) | (simp [*]; done)), H', ⟨by have := HK1.out; have := HK2.out; have := HK3.out; have := HK4.out; omega⟩, ⟨by (with_reducible repeat (first | refine blk_drewN ?_ _ | refine blk_drew ?_ | refine blk_alloc ?_ _)); refine blk_far ?_ NB104_131.out _; (with_reducible repeat (first | refine blk_drewN ?_ _ | refine blk_drew ?_ | refine blk_alloc ?_ _)); exact BK104.out⟩, ⟨by (with_reducible repeat (first | refine blk_drewN ?_ _ | refine blk_drew ?_ | refine blk_alloc ?_ _)); refine blk_far ?_ NB105_131.out _; (with_reducible repeat (first | refine blk_drewN ?_ _ | refine blk_drew ?_ | refine blk_alloc ?_ _)); exact BK105.out⟩, ⟨by (with_reducible repeat (first | refine blk_drewN ?_ _ | refine blk_drew ?_ | refine blk_alloc ?_ _)); refine blk_put (cs := #[.int .u32 x132000_4, .int .u32 x132001_4, .int .u32 x132002_4, .int .u32 x132003_4, .int .u32 x132004_4, .int .u32 x132005_4, .int .u32 x132006_4, .int .u32 x132007_4]) ?_ 0 _ rfl; (with_reducible repeat (first | refine blk_drewN ?_ _ | refine blk_drew ?_ | refine blk_alloc ?_ _)); exact BK131.out⟩, ⟨by repeat (first | (with_reducible first | exact HB.out | apply below_alloc | apply pw_below_drewN | apply below_drew1 | refine below_set ?_ GE104.out | refine below_set ?_ GE105.out | refine below_set ?_ GE131.out) | exact HB.out)⟩⟩
              ·rw [if_neg c79] at H
               clear c79
               by_cases c86 : x204_4 = 1
               ·rw [if_pos c86] at H
                subst c86
                rw [show wrap64 (1 + 1) = 2 from by unfold wrap64; decide] at H
                have H' := Aside0.mk H
                clear H
                try go_wp2
                have n0_ := Aside0.mk (blk_drew BK104.out)
                have n1_ := Aside0.mk (blk_drew BK105.out)
                have n2_ := Aside0.mk (blk_drew BK131.out)
                have n3_ := Aside0.mk (below_drew1 HB.out)
                clear BK104
                clear BK105
                clear BK131
                clear HB
                have BK104 := n0_
                have BK105 := n1_
                have BK131 := n2_
                have HB := n3_
                clear n0_ n1_ n2_ n3_
                refine start_ (n := 9) (S := fun w' => w'.cell? ⟨gb131, 0, none⟩ = some (.int .u32 x132000_4) ∧ w'.cell? ⟨gb131, 1, none⟩ = some (.int .u32 x132001_4) ∧ w'.cell? ⟨gb131, 2, none⟩ = some (.int .u32 x132002_4) ∧ w'.cell? ⟨gb131, 3, none⟩ = some (.int .u32 x132003_4) ∧ w'.cell? ⟨gb131, 4, none⟩ = some (.int .u32 x132004_4) ∧ w'.cell? ⟨gb131, 5, none⟩ = some (.int .u32 x132005_4) ∧ w'.cell? ⟨gb131, 6, none⟩ = some (.int .u32 x132006_4) ∧ w'.cell? ⟨gb131, 7, none⟩ = some (.int .u32 x132007_4) ∧ w'.cell? ⟨gb104, 0, none⟩ = some (.int .u32 a0_0) ∧ w'.cell? ⟨gb104, 1, none⟩ = some (.int .u32 a0_1) ∧ w'.cell? ⟨gb104, 2, none⟩ = some (.int .u32 a0_2) ∧ w'.cell? ⟨gb104, 3, none⟩ = some (.int .u32 a0_3) ∧ w'.cell? ⟨gb104, 4, none⟩ = some (.int .u32 a0_4) ∧ w'.cell? ⟨gb104, 5, none⟩ = some (.int .u32 a0_5) ∧ w'.cell? ⟨gb104, 6, none⟩ = some (.int .u32 a0_6) ∧ w'.cell? ⟨gb104, 7, none⟩ = some (.int .u32 a0_7)) (ds := [8]) #[false, false, false, false, false, false, false, false, false] (by kernel_rfl) rfl rfl ⟨(blk_cell BK131.out 0).trans rfl, (blk_cell BK131.out 1).trans rfl, (blk_cell BK131.out 2).trans rfl, (blk_cell BK131.out 3).trans rfl, (blk_cell BK131.out 4).trans rfl, (blk_cell BK131.out 5).trans rfl, (blk_cell BK131.out 6).trans rfl, (blk_cell BK131.out 7).trans rfl, (blk_cell BK104.out 0).trans rfl, (blk_cell BK104.out 1).trans rfl, (blk_cell BK104.out 2).trans rfl, (blk_cell BK104.out 3).trans rfl, (blk_cell BK104.out 4).trans rfl, (blk_cell BK104.out 5).trans rfl, (blk_cell BK104.out 6).trans rfl, (blk_cell BK104.out 7).trans rfl⟩ (fun hHeld => ?_); refine with_tabW hash_state_block.tab26 hash_state_block.bits26 (fun HT_ HW_ => ?_)
                generalize wr.drew = w87 at BK104 BK105 BK131 HB hHeld ⊢
                refine pure_ (i := 0) (N := some 207) (v := ?_) (a' := ?_) #[true, false, false, false, false, false, false, false, false] rfl rfl (any_of HT_.out (by kernel_rfl)) (fun _ _ _ h => h) (Or.inl ⟨by rfl, ?_⟩) ?_ ?_
                rotate_left; (intro w'; go_simp; with_reducible rfl); rotate_left; (simp only [Act.put, List.setIfInBounds_toArray, List.set_cons_zero, List.set_cons_succ, i64_w, i32_w]; rfl)
                refine pure_ (i := 1) (N := some 208) (v := ?_) (a' := ?_) #[true, true, false, false, false, false, false, false, false] rfl rfl (any_of HT_.out (by kernel_rfl)) (fun _ _ _ h => h) (Or.inl ⟨by rfl, ?_⟩) ?_ ?_
                rotate_left; (intro w'; go_simp; with_reducible rfl); rotate_left; (simp only [Act.put, List.setIfInBounds_toArray, List.set_cons_zero, List.set_cons_succ, i64_w, i32_w]; rfl)
                refine pure_ (i := 3) (N := some 210) (v := ?_) (a' := ?_) #[true, true, false, true, false, false, false, false, false] rfl rfl (any_of HT_.out (by kernel_rfl)) (fun _ _ _ h => h) (Or.inl ⟨by rfl, ?_⟩) ?_ ?_
                rotate_left; (intro w'; go_simp; with_reducible rfl); rotate_left; (simp only [Act.put, List.setIfInBounds_toArray, List.set_cons_zero, List.set_cons_succ, i64_w, i32_w]; rfl)
                refine pure_ (i := 4) (N := some 211) (v := ?_) (a' := ?_) #[true, true, false, true, true, false, false, false, false] rfl rfl (any_of HT_.out (by kernel_rfl)) (fun _ _ _ h => h) (Or.inl ⟨by rfl, ?_⟩) ?_ ?_
                rotate_left; (intro w'; go_simp; with_reducible rfl); rotate_left; (simp only [Act.put, List.setIfInBounds_toArray, List.set_cons_zero, List.set_cons_succ, i64_w, i32_w]; rfl)
                refine take_ (i := 2) (N := some 209) (v := ?_) (a' := ?_) #[true, true, true, true, true, false, false, false, false] rfl rfl (take_ofW HT_.out HW_.out (by kernel_rfl)) (fun _ _ _ h => h) (Or.inl ⟨by rfl, ?_⟩) hHeld ?_ ?_
                rotate_left; (rintro w' ⟨s0, s1, s2, s3, s4, s5, s6, s7, s8, s9, s10, s11, s12, s13, s14, s15⟩; go_simp; with_reducible rfl); rotate_left; (simp only [Act.put, List.setIfInBounds_toArray, List.set_cons_zero, List.set_cons_succ, i64_w, i32_w]; rfl)
                refine take_ (i := 5) (N := some 212) (v := ?_) (a' := ?_) #[true, true, true, true, true, true, false, false, false] rfl rfl (take_ofW HT_.out HW_.out (by kernel_rfl)) (fun _ _ _ h => h) (Or.inl ⟨by rfl, ?_⟩) hHeld ?_ ?_
                rotate_left; (rintro w' ⟨s0, s1, s2, s3, s4, s5, s6, s7, s8, s9, s10, s11, s12, s13, s14, s15⟩; go_simp; with_reducible rfl); rotate_left; (simp only [Act.put, List.setIfInBounds_toArray, List.set_cons_zero, List.set_cons_succ, i64_w, i32_w]; rfl)
                refine pure_ (i := 6) (N := some 213) (v := ?_) (a' := ?_) #[true, true, true, true, true, true, true, false, false] rfl rfl (any_of HT_.out (by kernel_rfl)) (fun _ _ _ h => h) (Or.inl ⟨by rfl, ?_⟩) ?_ ?_
                rotate_left; (intro w'; go_simp; with_reducible rfl); rotate_left; (simp only [Act.put, List.setIfInBounds_toArray, List.set_cons_zero, List.set_cons_succ, i64_w, i32_w]; rfl)
                refine pure_ (i := 7) (N := some 214) (v := ?_) (a' := ?_) #[true, true, true, true, true, true, true, true, false] rfl rfl (any_of HT_.out (by kernel_rfl)) (fun _ _ _ h => h) (Or.inl ⟨by rfl, ?_⟩) ?_ ?_
                rotate_left; (intro w'; go_simp; with_reducible rfl); rotate_left; (simp only [Act.put, List.setIfInBounds_toArray, List.set_cons_zero, List.set_cons_succ, i64_w, i32_w]; rfl)
                refine last_ (i := 8) (N := none) #[true, true, true, true, true, true, true, true, true] rfl rfl (one_of HT_.out (by kernel_rfl)) (by decide) (fun K hK => ?_)
                have hs92 : w87.cell? ⟨gb131, 1, none⟩ = some (.int .u32 x132001_4) := (blk_cell BK131.out 1).trans rfl
                have hfs92 := blk_frozen BK131.out 1
                have hns92_0 := NB104_131.out
                have hns92_1 := NB105_131.out
                have hms92_0 := NB131_104.out
                have hms92_1 := NB131_105.out
                refine skip_ (w1 := ?_) (by rfl) rfl ?_ ?_
                rotate_left
                ·go_simp
                 rfl
                refine hK.out _ _ ?_
                clear hK K
                refine done_ (done_of HT_.out (by kernel_rfl)) ?_
                try go_wp2
                go_roundg k4
                case measure => have := HK1.out; have := HK2.out; have := HK3.out; have := HK4.out; omega
                case rel => exact ⟨(2), x132000_4, ((x132001_4 + a0_1) % 4294967296), x132002_4, x132003_4, x132004_4, x132005_4, x132006_4, x132007_4, (by first | rfl | (simp; done) | (simp [*]; done)), H', ⟨by have := HK1.out; have := HK2.out; have := HK3.out; have := HK4.out; omega⟩, ⟨by (with_reducible repeat (first | refine blk_drewN ?_ _ | refine blk_drew ?_ | refine blk_alloc ?_ _)); refine blk_far ?_ NB104_131.out _; (with_reducible repeat (first | refine blk_drewN ?_ _ | refine blk_drew ?_ | refine blk_alloc ?_ _)); exact BK104.out⟩, ⟨by (with_reducible repeat (first | refine blk_drewN ?_ _ | refine blk_drew ?_ | refine blk_alloc ?_ _)); refine blk_far ?_ NB105_131.out _; (with_reducible repeat (first | refine blk_drewN ?_ _ | refine blk_drew ?_ | refine blk_alloc ?_ _)); exact BK105.out⟩, ⟨by (with_reducible repeat (first | refine blk_drewN ?_ _ | refine blk_drew ?_ | refine blk_alloc ?_ _)); refine blk_put (cs := #[.int .u32 x132000_4, .int .u32 x132001_4, .int .u32 x132002_4, .int .u32 x132003_4, .int .u32 x132004_4, .int .u32 x132005_4, .int .u32 x132006_4, .int .u32 x132007_4]) ?_ 1 _ rfl; (with_reducible repeat (first | refine blk_drewN ?_ _ | refine blk_drew ?_ | refine blk_alloc ?_ _)); exact BK131.out⟩, ⟨by repeat (first | (with_reducible first | exact HB.out | apply below_alloc | apply pw_below_drewN | apply below_drew1 | refine below_set ?_ GE104.out | refine below_set ?_ GE105.out | refine below_set ?_ GE131.out) | exact HB.out)⟩⟩
               ·rw [if_neg c86] at H
                clear c86
                by_cases c93 : x204_4 = 2
                ·rw [if_pos c93] at H
                 subst c93
                 rw [show wrap64 (2 + 1) = 3 from by unfold wrap64; decide] at H
                 have H' := Aside0.mk H
                 clear H
                 try go_wp2
                 have n0_ := Aside0.mk (blk_drew BK104.out)
                 have n1_ := Aside0.mk (blk_drew BK105.out)
                 have n2_ := Aside0.mk (blk_drew BK131.out)
                 have n3_ := Aside0.mk (below_drew1 HB.out)
                 clear BK104
                 clear BK105
                 clear BK131
                 clear HB
                 have BK104 := n0_
                 have BK105 := n1_
                 have BK131 := n2_
                 have HB := n3_
                 clear n0_ n1_ n2_ n3_
                 refine start_ (n := 9) (S := fun w' => w'.cell? ⟨gb131, 0, none⟩ = some (.int .u32 x132000_4) ∧ w'.cell? ⟨gb131, 1, none⟩ = some (.int .u32 x132001_4) ∧ w'.cell? ⟨gb131, 2, none⟩ = some (.int .u32 x132002_4) ∧ w'.cell? ⟨gb131, 3, none⟩ = some (.int .u32 x132003_4) ∧ w'.cell? ⟨gb131, 4, none⟩ = some (.int .u32 x132004_4) ∧ w'.cell? ⟨gb131, 5, none⟩ = some (.int .u32 x132005_4) ∧ w'.cell? ⟨gb131, 6, none⟩ = some (.int .u32 x132006_4) ∧ w'.cell? ⟨gb131, 7, none⟩ = some (.int .u32 x132007_4) ∧ w'.cell? ⟨gb104, 0, none⟩ = some (.int .u32 a0_0) ∧ w'.cell? ⟨gb104, 1, none⟩ = some (.int .u32 a0_1) ∧ w'.cell? ⟨gb104, 2, none⟩ = some (.int .u32 a0_2) ∧ w'.cell? ⟨gb104, 3, none⟩ = some (.int .u32 a0_3) ∧ w'.cell? ⟨gb104, 4, none⟩ = some (.int .u32 a0_4) ∧ w'.cell? ⟨gb104, 5, none⟩ = some (.int .u32 a0_5) ∧ w'.cell? ⟨gb104, 6, none⟩ = some (.int .u32 a0_6) ∧ w'.cell? ⟨gb104, 7, none⟩ = some (.int .u32 a0_7)) (ds := [8]) #[false, false, false, false, false, false, false, false, false] (by kernel_rfl) rfl rfl ⟨(blk_cell BK131.out 0).trans rfl, (blk_cell BK131.out 1).trans rfl, (blk_cell BK131.out 2).trans rfl, (blk_cell BK131.out 3).trans rfl, (blk_cell BK131.out 4).trans rfl, (blk_cell BK131.out 5).trans rfl, (blk_cell BK131.out 6).trans rfl, (blk_cell BK131.out 7).trans rfl, (blk_cell BK104.out 0).trans rfl, (blk_cell BK104.out 1).trans rfl, (blk_cell BK104.out 2).trans rfl, (blk_cell BK104.out 3).trans rfl, (blk_cell BK104.out 4).trans rfl, (blk_cell BK104.out 5).trans rfl, (blk_cell BK104.out 6).trans rfl, (blk_cell BK104.out 7).trans rfl⟩ (fun hHeld => ?_); refine with_tabW hash_state_block.tab26 hash_state_block.bits26 (fun HT_ HW_ => ?_)
                 generalize wr.drew = w94 at BK104 BK105 BK131 HB hHeld ⊢
                 refine pure_ (i := 0) (N := some 207) (v := ?_) (a' := ?_) #[true, false, false, false, false, false, false, false, false] rfl rfl (any_of HT_.out (by kernel_rfl)) (fun _ _ _ h => h) (Or.inl ⟨by rfl, ?_⟩) ?_ ?_
                 rotate_left; (intro w'; go_simp; with_reducible rfl); rotate_left; (simp only [Act.put, List.setIfInBounds_toArray, List.set_cons_zero, List.set_cons_succ, i64_w, i32_w]; rfl)
                 refine pure_ (i := 1) (N := some 208) (v := ?_) (a' := ?_) #[true, true, false, false, false, false, false, false, false] rfl rfl (any_of HT_.out (by kernel_rfl)) (fun _ _ _ h => h) (Or.inl ⟨by rfl, ?_⟩) ?_ ?_
                 rotate_left; (intro w'; go_simp; with_reducible rfl); rotate_left; (simp only [Act.put, List.setIfInBounds_toArray, List.set_cons_zero, List.set_cons_succ, i64_w, i32_w]; rfl)
                 refine pure_ (i := 3) (N := some 210) (v := ?_) (a' := ?_) #[true, true, false, true, false, false, false, false, false] rfl rfl (any_of HT_.out (by kernel_rfl)) (fun _ _ _ h => h) (Or.inl ⟨by rfl, ?_⟩) ?_ ?_
                 rotate_left; (intro w'; go_simp; with_reducible rfl); rotate_left; (simp only [Act.put, List.setIfInBounds_toArray, List.set_cons_zero, List.set_cons_succ, i64_w, i32_w]; rfl)
                 refine pure_ (i := 4) (N := some 211) (v := ?_) (a' := ?_) #[true, true, false, true, true, false, false, false, false] rfl rfl (any_of HT_.out (by kernel_rfl)) (fun _ _ _ h => h) (Or.inl ⟨by rfl, ?_⟩) ?_ ?_
                 rotate_left; (intro w'; go_simp; with_reducible rfl); rotate_left; (simp only [Act.put, List.setIfInBounds_toArray, List.set_cons_zero, List.set_cons_succ, i64_w, i32_w]; rfl)
                 refine take_ (i := 2) (N := some 209) (v := ?_) (a' := ?_) #[true, true, true, true, true, false, false, false, false] rfl rfl (take_ofW HT_.out HW_.out (by kernel_rfl)) (fun _ _ _ h => h) (Or.inl ⟨by rfl, ?_⟩) hHeld ?_ ?_
                 rotate_left; (rintro w' ⟨s0, s1, s2, s3, s4, s5, s6, s7, s8, s9, s10, s11, s12, s13, s14, s15⟩; go_simp; with_reducible rfl); rotate_left; (simp only [Act.put, List.setIfInBounds_toArray, List.set_cons_zero, List.set_cons_succ, i64_w, i32_w]; rfl)
                 refine take_ (i := 5) (N := some 212) (v := ?_) (a' := ?_) #[true, true, true, true, true, true, false, false, false] rfl rfl (take_ofW HT_.out HW_.out (by kernel_rfl)) (fun _ _ _ h => h) (Or.inl ⟨by rfl, ?_⟩) hHeld ?_ ?_
                 rotate_left; (rintro w' ⟨s0, s1, s2, s3, s4, s5, s6, s7, s8, s9, s10, s11, s12, s13, s14, s15⟩; go_simp; with_reducible rfl); rotate_left; (simp only [Act.put, List.setIfInBounds_toArray, List.set_cons_zero, List.set_cons_succ, i64_w, i32_w]; rfl)
                 refine pure_ (i := 6) (N := some 213) (v := ?_) (a' := ?_) #[true, true, true, true, true, true, true, false, false] rfl rfl (any_of HT_.out (by kernel_rfl)) (fun _ _ _ h => h) (Or.inl ⟨by rfl, ?_⟩) ?_ ?_
                 rotate_left; (intro w'; go_simp; with_reducible rfl); rotate_left; (simp only [Act.put, List.setIfInBounds_toArray, List.set_cons_zero, List.set_cons_succ, i64_w, i32_w]; rfl)
                 refine pure_ (i := 7) (N := some 214) (v := ?_) (a' := ?_) #[true, true, true, true, true, true, true, true, false] rfl rfl (any_of HT_.out (by kernel_rfl)) (fun _ _ _ h => h) (Or.inl ⟨by rfl, ?_⟩) ?_ ?_
                 rotate_left; (intro w'; go_simp; with_reducible rfl); rotate_left; (simp only [Act.put, List.setIfInBounds_toArray, List.set_cons_zero, List.set_cons_succ, i64_w, i32_w]; rfl)
                 refine last_ (i := 8) (N := none) #[true, true, true, true, true, true, true, true, true] rfl rfl (one_of HT_.out (by kernel_rfl)) (by decide) (fun K hK => ?_)
                 have hs99 : w94.cell? ⟨gb131, 2, none⟩ = some (.int .u32 x132002_4) := (blk_cell BK131.out 2).trans rfl
                 have hfs99 := blk_frozen BK131.out 2
                 have hns99_0 := NB104_131.out
                 have hns99_1 := NB105_131.out
                 have hms99_0 := NB131_104.out
                 have hms99_1 := NB131_105.out
                 refine skip_ (w1 := ?_) (by rfl) rfl ?_ ?_
                 rotate_left
                 ·go_simp
                  rfl
                 refine hK.out _ _ ?_
                 clear hK K
                 refine done_ (done_of HT_.out (by kernel_rfl)) ?_
                 try go_wp2
                 go_roundg k4
                 case measure => have := HK1.out; have := HK2.out; have := HK3.out; have := HK4.out; omega
                 case rel => exact ⟨(3), x132000_4, x132001_4, ((x132002_4 + a0_2) % 4294967296), x132003_4, x132004_4, x132005_4, x132006_4, x132007_4, (by first | rfl | (simp; done) | (simp [*]; done)), H', ⟨by have := HK1.out; have := HK2.out; have := HK3.out; have := HK4.out; omega⟩, ⟨by (with_reducible repeat (first | refine blk_drewN ?_ _ | refine blk_drew ?_ | refine blk_alloc ?_ _)); refine blk_far ?_ NB104_131.out _; (with_reducible repeat (first | refine blk_drewN ?_ _ | refine blk_drew ?_ | refine blk_alloc ?_ _)); exact BK104.out⟩, ⟨by (with_reducible repeat (first | refine blk_drewN ?_ _ | refine blk_drew ?_ | refine blk_alloc ?_ _)); refine blk_far ?_ NB105_131.out _; (with_reducible repeat (first | refine blk_drewN ?_ _ | refine blk_drew ?_ | refine blk_alloc ?_ _)); exact BK105.out⟩, ⟨by (with_reducible repeat (first | refine blk_drewN ?_ _ | refine blk_drew ?_ | refine blk_alloc ?_ _)); refine blk_put (cs := #[.int .u32 x132000_4, .int .u32 x132001_4, .int .u32 x132002_4, .int .u32 x132003_4, .int .u32 x132004_4, .int .u32 x132005_4, .int .u32 x132006_4, .int .u32 x132007_4]) ?_ 2 _ rfl; (with_reducible repeat (first | refine blk_drewN ?_ _ | refine blk_drew ?_ | refine blk_alloc ?_ _)); exact BK131.out⟩, ⟨by repeat (first | (with_reducible first | exact HB.out | apply below_alloc | apply pw_below_drewN | apply below_drew1 | refine below_set ?_ GE104.out | refine below_set ?_ GE105.out | refine below_set ?_ GE131.out) | exact HB.out)⟩⟩
                ·rw [if_neg c93] at H
                 clear c93
                 by_cases c100 : x204_4 = 3
                 ·rw [if_pos c100] at H
                  subst c100
                  rw [show wrap64 (3 + 1) = 4 from by unfold wrap64; decide] at H
                  have H' := Aside0.mk H
                  clear H
                  try go_wp2
                  have n0_ := Aside0.mk (blk_drew BK104.out)
                  have n1_ := Aside0.mk (blk_drew BK105.out)
                  have n2_ := Aside0.mk (blk_drew BK131.out)
                  have n3_ := Aside0.mk (below_drew1 HB.out)
                  clear BK104
                  clear BK105
                  clear BK131
                  clear HB
                  have BK104 := n0_
                  have BK105 := n1_
                  have BK131 := n2_
                  have HB := n3_
                  clear n0_ n1_ n2_ n3_
                  refine start_ (n := 9) (S := fun w' => w'.cell? ⟨gb131, 0, none⟩ = some (.int .u32 x132000_4) ∧ w'.cell? ⟨gb131, 1, none⟩ = some (.int .u32 x132001_4) ∧ w'.cell? ⟨gb131, 2, none⟩ = some (.int .u32 x132002_4) ∧ w'.cell? ⟨gb131, 3, none⟩ = some (.int .u32 x132003_4) ∧ w'.cell? ⟨gb131, 4, none⟩ = some (.int .u32 x132004_4) ∧ w'.cell? ⟨gb131, 5, none⟩ = some (.int .u32 x132005_4) ∧ w'.cell? ⟨gb131, 6, none⟩ = some (.int .u32 x132006_4) ∧ w'.cell? ⟨gb131, 7, none⟩ = some (.int .u32 x132007_4) ∧ w'.cell? ⟨gb104, 0, none⟩ = some (.int .u32 a0_0) ∧ w'.cell? ⟨gb104, 1, none⟩ = some (.int .u32 a0_1) ∧ w'.cell? ⟨gb104, 2, none⟩ = some (.int .u32 a0_2) ∧ w'.cell? ⟨gb104, 3, none⟩ = some (.int .u32 a0_3) ∧ w'.cell? ⟨gb104, 4, none⟩ = some (.int .u32 a0_4) ∧ w'.cell? ⟨gb104, 5, none⟩ = some (.int .u32 a0_5) ∧ w'.cell? ⟨gb104, 6, none⟩ = some (.int .u32 a0_6) ∧ w'.cell? ⟨gb104, 7, none⟩ = some (.int .u32 a0_7)) (ds := [8]) #[false, false, false, false, false, false, false, false, false] (by kernel_rfl) rfl rfl ⟨(blk_cell BK131.out 0).trans rfl, (blk_cell BK131.out 1).trans rfl, (blk_cell BK131.out 2).trans rfl, (blk_cell BK131.out 3).trans rfl, (blk_cell BK131.out 4).trans rfl, (blk_cell BK131.out 5).trans rfl, (blk_cell BK131.out 6).trans rfl, (blk_cell BK131.out 7).trans rfl, (blk_cell BK104.out 0).trans rfl, (blk_cell BK104.out 1).trans rfl, (blk_cell BK104.out 2).trans rfl, (blk_cell BK104.out 3).trans rfl, (blk_cell BK104.out 4).trans rfl, (blk_cell BK104.out 5).trans rfl, (blk_cell BK104.out 6).trans rfl, (blk_cell BK104.out 7).trans rfl⟩ (fun hHeld => ?_); refine with_tabW hash_state_block.tab26 hash_state_block.bits26 (fun HT_ HW_ => ?_)
                  generalize wr.drew = w101 at BK104 BK105 BK131 HB hHeld ⊢
                  refine pure_ (i := 0) (N := some 207) (v := ?_) (a' := ?_) #[true, false, false, false, false, false, false, false, false] rfl rfl (any_of HT_.out (by kernel_rfl)) (fun _ _ _ h => h) (Or.inl ⟨by rfl, ?_⟩) ?_ ?_
                  rotate_left; (intro w'; go_simp; with_reducible rfl); rotate_left; (simp only [Act.put, List.setIfInBounds_toArray, List.set_cons_zero, List.set_cons_succ, i64_w, i32_w]; rfl)
                  refine pure_ (i := 1) (N := some 208) (v := ?_) (a' := ?_) #[true, true, false, false, false, false, false, false, false] rfl rfl (any_of HT_.out (by kernel_rfl)) (fun _ _ _ h => h) (Or.inl ⟨by rfl, ?_⟩) ?_ ?_
                  rotate_left; (intro w'; go_simp; with_reducible rfl); rotate_left; (simp only [Act.put, List.setIfInBounds_toArray, List.set_cons_zero, List.set_cons_succ, i64_w, i32_w]; rfl)
                  refine pure_ (i := 3) (N := some 210) (v := ?_) (a' := ?_) #[true, true, false, true, false, false, false, false, false] rfl rfl (any_of HT_.out (by kernel_rfl)) (fun _ _ _ h => h) (Or.inl ⟨by rfl, ?_⟩) ?_ ?_
                  rotate_left; (intro w'; go_simp; with_reducible rfl); rotate_left; (simp only [Act.put, List.setIfInBounds_toArray, List.set_cons_zero, List.set_cons_succ, i64_w, i32_w]; rfl)
                  refine pure_ (i := 4) (N := some 211) (v := ?_) (a' := ?_) #[true, true, false, true, true, false, false, false, false] rfl rfl (any_of HT_.out (by kernel_rfl)) (fun _ _ _ h => h) (Or.inl ⟨by rfl, ?_⟩) ?_ ?_
                  rotate_left; (intro w'; go_simp; with_reducible rfl); rotate_left; (simp only [Act.put, List.setIfInBounds_toArray, List.set_cons_zero, List.set_cons_succ, i64_w, i32_w]; rfl)
                  refine take_ (i := 2) (N := some 209) (v := ?_) (a' := ?_) #[true, true, true, true, true, false, false, false, false] rfl rfl (take_ofW HT_.out HW_.out (by kernel_rfl)) (fun _ _ _ h => h) (Or.inl ⟨by rfl, ?_⟩) hHeld ?_ ?_
                  rotate_left; (rintro w' ⟨s0, s1, s2, s3, s4, s5, s6, s7, s8, s9, s10, s11, s12, s13, s14, s15⟩; go_simp; with_reducible rfl); rotate_left; (simp only [Act.put, List.setIfInBounds_toArray, List.set_cons_zero, List.set_cons_succ, i64_w, i32_w]; rfl)
                  refine take_ (i := 5) (N := some 212) (v := ?_) (a' := ?_) #[true, true, true, true, true, true, false, false, false] rfl rfl (take_ofW HT_.out HW_.out (by kernel_rfl)) (fun _ _ _ h => h) (Or.inl ⟨by rfl, ?_⟩) hHeld ?_ ?_
                  rotate_left; (rintro w' ⟨s0, s1, s2, s3, s4, s5, s6, s7, s8, s9, s10, s11, s12, s13, s14, s15⟩; go_simp; with_reducible rfl); rotate_left; (simp only [Act.put, List.setIfInBounds_toArray, List.set_cons_zero, List.set_cons_succ, i64_w, i32_w]; rfl)
                  refine pure_ (i := 6) (N := some 213) (v := ?_) (a' := ?_) #[true, true, true, true, true, true, true, false, false] rfl rfl (any_of HT_.out (by kernel_rfl)) (fun _ _ _ h => h) (Or.inl ⟨by rfl, ?_⟩) ?_ ?_
                  rotate_left; (intro w'; go_simp; with_reducible rfl); rotate_left; (simp only [Act.put, List.setIfInBounds_toArray, List.set_cons_zero, List.set_cons_succ, i64_w, i32_w]; rfl)
                  refine pure_ (i := 7) (N := some 214) (v := ?_) (a' := ?_) #[true, true, true, true, true, true, true, true, false] rfl rfl (any_of HT_.out (by kernel_rfl)) (fun _ _ _ h => h) (Or.inl ⟨by rfl, ?_⟩) ?_ ?_
                  rotate_left; (intro w'; go_simp; with_reducible rfl); rotate_left; (simp only [Act.put, List.setIfInBounds_toArray, List.set_cons_zero, List.set_cons_succ, i64_w, i32_w]; rfl)
                  refine last_ (i := 8) (N := none) #[true, true, true, true, true, true, true, true, true] rfl rfl (one_of HT_.out (by kernel_rfl)) (by decide) (fun K hK => ?_)
                  have hs106 : w101.cell? ⟨gb131, 3, none⟩ = some (.int .u32 x132003_4) := (blk_cell BK131.out 3).trans rfl
                  have hfs106 := blk_frozen BK131.out 3
                  have hns106_0 := NB104_131.out
                  have hns106_1 := NB105_131.out
                  have hms106_0 := NB131_104.out
                  have hms106_1 := NB131_105.out
                  refine skip_ (w1 := ?_) (by rfl) rfl ?_ ?_
                  rotate_left
                  ·go_simp
                   rfl
                  refine hK.out _ _ ?_
                  clear hK K
                  refine done_ (done_of HT_.out (by kernel_rfl)) ?_
                  try go_wp2
                  go_roundg k4
                  case measure => have := HK1.out; have := HK2.out; have := HK3.out; have := HK4.out; omega
                  case rel => exact ⟨(4), x132000_4, x132001_4, x132002_4, ((x132003_4 + a0_3) % 4294967296), x132004_4, x132005_4, x132006_4, x132007_4, (by first | rfl | (simp; done) | (simp [*]; done)), H', ⟨by have := HK1.out; have := HK2.out; have := HK3.out; have := HK4.out; omega⟩, ⟨by (with_reducible repeat (first | refine blk_drewN ?_ _ | refine blk_drew ?_ | refine blk_alloc ?_ _)); refine blk_far ?_ NB104_131.out _; (with_reducible repeat (first | refine blk_drewN ?_ _ | refine blk_drew ?_ | refine blk_alloc ?_ _)); exact BK104.out⟩, ⟨by (with_reducible repeat (first | refine blk_drewN ?_ _ | refine blk_drew ?_ | refine blk_alloc ?_ _)); refine blk_far ?_ NB105_131.out _; (with_reducible repeat (first | refine blk_drewN ?_ _ | refine blk_drew ?_ | refine blk_alloc ?_ _)); exact BK105.out⟩, ⟨by (with_reducible repeat (first | refine blk_drewN ?_ _ | refine blk_drew ?_ | refine blk_alloc ?_ _)); refine blk_put (cs := #[.int .u32 x132000_4, .int .u32 x132001_4, .int .u32 x132002_4, .int .u32 x132003_4, .int .u32 x132004_4, .int .u32 x132005_4, .int .u32 x132006_4, .int .u32 x132007_4]) ?_ 3 _ rfl; (with_reducible repeat (first | refine blk_drewN ?_ _ | refine blk_drew ?_ | refine blk_alloc ?_ _)); exact BK131.out⟩, ⟨by repeat (first | (with_reducible first | exact HB.out | apply below_alloc | apply pw_below_drewN | apply below_drew1 | refine below_set ?_ GE104.out | refine below_set ?_ GE105.out | refine below_set ?_ GE131.out) | exact HB.out)⟩⟩
                 ·rw [if_neg c100] at H
                  clear c100
                  by_cases c107 : x204_4 = 4
                  ·rw [if_pos c107] at H
                   subst c107
                   rw [show wrap64 (4 + 1) = 5 from by unfold wrap64; decide] at H
                   have H' := Aside0.mk H
                   clear H
                   try go_wp2
                   have n0_ := Aside0.mk (blk_drew BK104.out)
                   have n1_ := Aside0.mk (blk_drew BK105.out)
                   have n2_ := Aside0.mk (blk_drew BK131.out)
                   have n3_ := Aside0.mk (below_drew1 HB.out)
                   clear BK104
                   clear BK105
                   clear BK131
                   clear HB
                   have BK104 := n0_
                   have BK105 := n1_
                   have BK131 := n2_
                   have HB := n3_
                   clear n0_ n1_ n2_ n3_
                   refine start_ (n := 9) (S := fun w' => w'.cell? ⟨gb131, 0, none⟩ = some (.int .u32 x132000_4) ∧ w'.cell? ⟨gb131, 1, none⟩ = some (.int .u32 x132001_4) ∧ w'.cell? ⟨gb131, 2, none⟩ = some (.int .u32 x132002_4) ∧ w'.cell? ⟨gb131, 3, none⟩ = some (.int .u32 x132003_4) ∧ w'.cell? ⟨gb131, 4, none⟩ = some (.int .u32 x132004_4) ∧ w'.cell? ⟨gb131, 5, none⟩ = some (.int .u32 x132005_4) ∧ w'.cell? ⟨gb131, 6, none⟩ = some (.int .u32 x132006_4) ∧ w'.cell? ⟨gb131, 7, none⟩ = some (.int .u32 x132007_4) ∧ w'.cell? ⟨gb104, 0, none⟩ = some (.int .u32 a0_0) ∧ w'.cell? ⟨gb104, 1, none⟩ = some (.int .u32 a0_1) ∧ w'.cell? ⟨gb104, 2, none⟩ = some (.int .u32 a0_2) ∧ w'.cell? ⟨gb104, 3, none⟩ = some (.int .u32 a0_3) ∧ w'.cell? ⟨gb104, 4, none⟩ = some (.int .u32 a0_4) ∧ w'.cell? ⟨gb104, 5, none⟩ = some (.int .u32 a0_5) ∧ w'.cell? ⟨gb104, 6, none⟩ = some (.int .u32 a0_6) ∧ w'.cell? ⟨gb104, 7, none⟩ = some (.int .u32 a0_7)) (ds := [8]) #[false, false, false, false, false, false, false, false, false] (by kernel_rfl) rfl rfl ⟨(blk_cell BK131.out 0).trans rfl, (blk_cell BK131.out 1).trans rfl, (blk_cell BK131.out 2).trans rfl, (blk_cell BK131.out 3).trans rfl, (blk_cell BK131.out 4).trans rfl, (blk_cell BK131.out 5).trans rfl, (blk_cell BK131.out 6).trans rfl, (blk_cell BK131.out 7).trans rfl, (blk_cell BK104.out 0).trans rfl, (blk_cell BK104.out 1).trans rfl, (blk_cell BK104.out 2).trans rfl, (blk_cell BK104.out 3).trans rfl, (blk_cell BK104.out 4).trans rfl, (blk_cell BK104.out 5).trans rfl, (blk_cell BK104.out 6).trans rfl, (blk_cell BK104.out 7).trans rfl⟩ (fun hHeld => ?_); refine with_tabW hash_state_block.tab26 hash_state_block.bits26 (fun HT_ HW_ => ?_)
                   generalize wr.drew = w108 at BK104 BK105 BK131 HB hHeld ⊢
                   refine pure_ (i := 0) (N := some 207) (v := ?_) (a' := ?_) #[true, false, false, false, false, false, false, false, false] rfl rfl (any_of HT_.out (by kernel_rfl)) (fun _ _ _ h => h) (Or.inl ⟨by rfl, ?_⟩) ?_ ?_
                   rotate_left; (intro w'; go_simp; with_reducible rfl); rotate_left; (simp only [Act.put, List.setIfInBounds_toArray, List.set_cons_zero, List.set_cons_succ, i64_w, i32_w]; rfl)
                   refine pure_ (i := 1) (N := some 208) (v := ?_) (a' := ?_) #[true, true, false, false, false, false, false, false, false] rfl rfl (any_of HT_.out (by kernel_rfl)) (fun _ _ _ h => h) (Or.inl ⟨by rfl, ?_⟩) ?_ ?_
                   rotate_left; (intro w'; go_simp; with_reducible rfl); rotate_left; (simp only [Act.put, List.setIfInBounds_toArray, List.set_cons_zero, List.set_cons_succ, i64_w, i32_w]; rfl)
                   refine pure_ (i := 3) (N := some 210) (v := ?_) (a' := ?_) #[true, true, false, true, false, false, false, false, false] rfl rfl (any_of HT_.out (by kernel_rfl)) (fun _ _ _ h => h) (Or.inl ⟨by rfl, ?_⟩) ?_ ?_
                   rotate_left; (intro w'; go_simp; with_reducible rfl); rotate_left; (simp only [Act.put, List.setIfInBounds_toArray, List.set_cons_zero, List.set_cons_succ, i64_w, i32_w]; rfl)
                   refine pure_ (i := 4) (N := some 211) (v := ?_) (a' := ?_) #[true, true, false, true, true, false, false, false, false] rfl rfl (any_of HT_.out (by kernel_rfl)) (fun _ _ _ h => h) (Or.inl ⟨by rfl, ?_⟩) ?_ ?_
                   rotate_left; (intro w'; go_simp; with_reducible rfl); rotate_left; (simp only [Act.put, List.setIfInBounds_toArray, List.set_cons_zero, List.set_cons_succ, i64_w, i32_w]; rfl)
                   refine take_ (i := 2) (N := some 209) (v := ?_) (a' := ?_) #[true, true, true, true, true, false, false, false, false] rfl rfl (take_ofW HT_.out HW_.out (by kernel_rfl)) (fun _ _ _ h => h) (Or.inl ⟨by rfl, ?_⟩) hHeld ?_ ?_
                   rotate_left; (rintro w' ⟨s0, s1, s2, s3, s4, s5, s6, s7, s8, s9, s10, s11, s12, s13, s14, s15⟩; go_simp; with_reducible rfl); rotate_left; (simp only [Act.put, List.setIfInBounds_toArray, List.set_cons_zero, List.set_cons_succ, i64_w, i32_w]; rfl)
                   refine take_ (i := 5) (N := some 212) (v := ?_) (a' := ?_) #[true, true, true, true, true, true, false, false, false] rfl rfl (take_ofW HT_.out HW_.out (by kernel_rfl)) (fun _ _ _ h => h) (Or.inl ⟨by rfl, ?_⟩) hHeld ?_ ?_
                   rotate_left; (rintro w' ⟨s0, s1, s2, s3, s4, s5, s6, s7, s8, s9, s10, s11, s12, s13, s14, s15⟩; go_simp; with_reducible rfl); rotate_left; (simp only [Act.put, List.setIfInBounds_toArray, List.set_cons_zero, List.set_cons_succ, i64_w, i32_w]; rfl)
                   refine pure_ (i := 6) (N := some 213) (v := ?_) (a' := ?_) #[true, true, true, true, true, true, true, false, false] rfl rfl (any_of HT_.out (by kernel_rfl)) (fun _ _ _ h => h) (Or.inl ⟨by rfl, ?_⟩) ?_ ?_
                   rotate_left; (intro w'; go_simp; with_reducible rfl); rotate_left; (simp only [Act.put, List.setIfInBounds_toArray, List.set_cons_zero, List.set_cons_succ, i64_w, i32_w]; rfl)
                   refine pure_ (i := 7) (N := some 214) (v := ?_) (a' := ?_) #[true, true, true, true, true, true, true, true, false] rfl rfl (any_of HT_.out (by kernel_rfl)) (fun _ _ _ h => h) (Or.inl ⟨by rfl, ?_⟩) ?_ ?_
                   rotate_left; (intro w'; go_simp; with_reducible rfl); rotate_left; (simp only [Act.put, List.setIfInBounds_toArray, List.set_cons_zero, List.set_cons_succ, i64_w, i32_w]; rfl)
                   refine last_ (i := 8) (N := none) #[true, true, true, true, true, true, true, true, true] rfl rfl (one_of HT_.out (by kernel_rfl)) (by decide) (fun K hK => ?_)
                   have hs113 : w108.cell? ⟨gb131, 4, none⟩ = some (.int .u32 x132004_4) := (blk_cell BK131.out 4).trans rfl
                   have hfs113 := blk_frozen BK131.out 4
                   have hns113_0 := NB104_131.out
                   have hns113_1 := NB105_131.out
                   have hms113_0 := NB131_104.out
                   have hms113_1 := NB131_105.out
                   refine skip_ (w1 := ?_) (by rfl) rfl ?_ ?_
                   rotate_left
                   ·go_simp
                    rfl
                   refine hK.out _ _ ?_
                   clear hK K
                   refine done_ (done_of HT_.out (by kernel_rfl)) ?_
                   try go_wp2
                   go_roundg k4
                   case measure => have := HK1.out; have := HK2.out; have := HK3.out; have := HK4.out; omega
                   case rel => exact ⟨(5), x132000_4, x132001_4, x132002_4, x132003_4, ((x132004_4 + a0_4) % 4294967296), x132005_4, x132006_4, x132007_4, (by first | rfl | (simp; done) | (simp [*]; done)), H', ⟨by have := HK1.out; have := HK2.out; have := HK3.out; have := HK4.out; omega⟩, ⟨by (with_reducible repeat (first | refine blk_drewN ?_ _ | refine blk_drew ?_ | refine blk_alloc ?_ _)); refine blk_far ?_ NB104_131.out _; (with_reducible repeat (first | refine blk_drewN ?_ _ | refine blk_drew ?_ | refine blk_alloc ?_ _)); exact BK104.out⟩, ⟨by (with_reducible repeat (first | refine blk_drewN ?_ _ | refine blk_drew ?_ | refine blk_alloc ?_ _)); refine blk_far ?_ NB105_131.out _; (with_reducible repeat (first | refine blk_drewN ?_ _ | refine blk_drew ?_ | refine blk_alloc ?_ _)); exact BK105.out⟩, ⟨by (with_reducible repeat (first | refine blk_drewN ?_ _ | refine blk_drew ?_ | refine blk_alloc ?_ _)); refine blk_put (cs := #[.int .u32 x132000_4, .int .u32 x132001_4, .int .u32 x132002_4, .int .u32 x132003_4, .int .u32 x132004_4, .int .u32 x132005_4, .int .u32 x132006_4, .int .u32 x132007_4]) ?_ 4 _ rfl; (with_reducible repeat (first | refine blk_drewN ?_ _ | refine blk_drew ?_ | refine blk_alloc ?_ _)); exact BK131.out⟩, ⟨by repeat (first | (with_reducible first | exact HB.out | apply below_alloc | apply pw_below_drewN | apply below_drew1 | refine below_set ?_ GE104.out | refine below_set ?_ GE105.out | refine below_set ?_ GE131.out) | exact HB.out)⟩⟩
                  ·rw [if_neg c107] at H
                   clear c107
                   by_cases c114 : x204_4 = 5
                   ·rw [if_pos c114] at H
                    subst c114
                    rw [show wrap64 (5 + 1) = 6 from by unfold wrap64; decide] at H
                    have H' := Aside0.mk H
                    clear H
                    try go_wp2
                    have n0_ := Aside0.mk (blk_drew BK104.out)
                    have n1_ := Aside0.mk (blk_drew BK105.out)
                    have n2_ := Aside0.mk (blk_drew BK131.out)
                    have n3_ := Aside0.mk (below_drew1 HB.out)
                    clear BK104
                    clear BK105
                    clear BK131
                    clear HB
                    have BK104 := n0_
                    have BK105 := n1_
                    have BK131 := n2_
                    have HB := n3_
                    clear n0_ n1_ n2_ n3_
                    refine start_ (n := 9) (S := fun w' => w'.cell? ⟨gb131, 0, none⟩ = some (.int .u32 x132000_4) ∧ w'.cell? ⟨gb131, 1, none⟩ = some (.int .u32 x132001_4) ∧ w'.cell? ⟨gb131, 2, none⟩ = some (.int .u32 x132002_4) ∧ w'.cell? ⟨gb131, 3, none⟩ = some (.int .u32 x132003_4) ∧ w'.cell? ⟨gb131, 4, none⟩ = some (.int .u32 x132004_4) ∧ w'.cell? ⟨gb131, 5, none⟩ = some (.int .u32 x132005_4) ∧ w'.cell? ⟨gb131, 6, none⟩ = some (.int .u32 x132006_4) ∧ w'.cell? ⟨gb131, 7, none⟩ = some (.int .u32 x132007_4) ∧ w'.cell? ⟨gb104, 0, none⟩ = some (.int .u32 a0_0) ∧ w'.cell? ⟨gb104, 1, none⟩ = some (.int .u32 a0_1) ∧ w'.cell? ⟨gb104, 2, none⟩ = some (.int .u32 a0_2) ∧ w'.cell? ⟨gb104, 3, none⟩ = some (.int .u32 a0_3) ∧ w'.cell? ⟨gb104, 4, none⟩ = some (.int .u32 a0_4) ∧ w'.cell? ⟨gb104, 5, none⟩ = some (.int .u32 a0_5) ∧ w'.cell? ⟨gb104, 6, none⟩ = some (.int .u32 a0_6) ∧ w'.cell? ⟨gb104, 7, none⟩ = some (.int .u32 a0_7)) (ds := [8]) #[false, false, false, false, false, false, false, false, false] (by kernel_rfl) rfl rfl ⟨(blk_cell BK131.out 0).trans rfl, (blk_cell BK131.out 1).trans rfl, (blk_cell BK131.out 2).trans rfl, (blk_cell BK131.out 3).trans rfl, (blk_cell BK131.out 4).trans rfl, (blk_cell BK131.out 5).trans rfl, (blk_cell BK131.out 6).trans rfl, (blk_cell BK131.out 7).trans rfl, (blk_cell BK104.out 0).trans rfl, (blk_cell BK104.out 1).trans rfl, (blk_cell BK104.out 2).trans rfl, (blk_cell BK104.out 3).trans rfl, (blk_cell BK104.out 4).trans rfl, (blk_cell BK104.out 5).trans rfl, (blk_cell BK104.out 6).trans rfl, (blk_cell BK104.out 7).trans rfl⟩ (fun hHeld => ?_); refine with_tabW hash_state_block.tab26 hash_state_block.bits26 (fun HT_ HW_ => ?_)
                    generalize wr.drew = w115 at BK104 BK105 BK131 HB hHeld ⊢
                    refine pure_ (i := 0) (N := some 207) (v := ?_) (a' := ?_) #[true, false, false, false, false, false, false, false, false] rfl rfl (any_of HT_.out (by kernel_rfl)) (fun _ _ _ h => h) (Or.inl ⟨by rfl, ?_⟩) ?_ ?_
                    rotate_left; (intro w'; go_simp; with_reducible rfl); rotate_left; (simp only [Act.put, List.setIfInBounds_toArray, List.set_cons_zero, List.set_cons_succ, i64_w, i32_w]; rfl)
                    refine pure_ (i := 1) (N := some 208) (v := ?_) (a' := ?_) #[true, true, false, false, false, false, false, false, false] rfl rfl (any_of HT_.out (by kernel_rfl)) (fun _ _ _ h => h) (Or.inl ⟨by rfl, ?_⟩) ?_ ?_
                    rotate_left; (intro w'; go_simp; with_reducible rfl); rotate_left; (simp only [Act.put, List.setIfInBounds_toArray, List.set_cons_zero, List.set_cons_succ, i64_w, i32_w]; rfl)
                    refine pure_ (i := 3) (N := some 210) (v := ?_) (a' := ?_) #[true, true, false, true, false, false, false, false, false] rfl rfl (any_of HT_.out (by kernel_rfl)) (fun _ _ _ h => h) (Or.inl ⟨by rfl, ?_⟩) ?_ ?_
                    rotate_left; (intro w'; go_simp; with_reducible rfl); rotate_left; (simp only [Act.put, List.setIfInBounds_toArray, List.set_cons_zero, List.set_cons_succ, i64_w, i32_w]; rfl)
                    refine pure_ (i := 4) (N := some 211) (v := ?_) (a' := ?_) #[true, true, false, true, true, false, false, false, false] rfl rfl (any_of HT_.out (by kernel_rfl)) (fun _ _ _ h => h) (Or.inl ⟨by rfl, ?_⟩) ?_ ?_
                    rotate_left; (intro w'; go_simp; with_reducible rfl); rotate_left; (simp only [Act.put, List.setIfInBounds_toArray, List.set_cons_zero, List.set_cons_succ, i64_w, i32_w]; rfl)
                    refine take_ (i := 2) (N := some 209) (v := ?_) (a' := ?_) #[true, true, true, true, true, false, false, false, false] rfl rfl (take_ofW HT_.out HW_.out (by kernel_rfl)) (fun _ _ _ h => h) (Or.inl ⟨by rfl, ?_⟩) hHeld ?_ ?_
                    rotate_left; (rintro w' ⟨s0, s1, s2, s3, s4, s5, s6, s7, s8, s9, s10, s11, s12, s13, s14, s15⟩; go_simp; with_reducible rfl); rotate_left; (simp only [Act.put, List.setIfInBounds_toArray, List.set_cons_zero, List.set_cons_succ, i64_w, i32_w]; rfl)
                    refine take_ (i := 5) (N := some 212) (v := ?_) (a' := ?_) #[true, true, true, true, true, true, false, false, false] rfl rfl (take_ofW HT_.out HW_.out (by kernel_rfl)) (fun _ _ _ h => h) (Or.inl ⟨by rfl, ?_⟩) hHeld ?_ ?_
                    rotate_left; (rintro w' ⟨s0, s1, s2, s3, s4, s5, s6, s7, s8, s9, s10, s11, s12, s13, s14, s15⟩; go_simp; with_reducible rfl); rotate_left; (simp only [Act.put, List.setIfInBounds_toArray, List.set_cons_zero, List.set_cons_succ, i64_w, i32_w]; rfl)
                    refine pure_ (i := 6) (N := some 213) (v := ?_) (a' := ?_) #[true, true, true, true, true, true, true, false, false] rfl rfl (any_of HT_.out (by kernel_rfl)) (fun _ _ _ h => h) (Or.inl ⟨by rfl, ?_⟩) ?_ ?_
                    rotate_left; (intro w'; go_simp; with_reducible rfl); rotate_left; (simp only [Act.put, List.setIfInBounds_toArray, List.set_cons_zero, List.set_cons_succ, i64_w, i32_w]; rfl)
                    refine pure_ (i := 7) (N := some 214) (v := ?_) (a' := ?_) #[true, true, true, true, true, true, true, true, false] rfl rfl (any_of HT_.out (by kernel_rfl)) (fun _ _ _ h => h) (Or.inl ⟨by rfl, ?_⟩) ?_ ?_
                    rotate_left; (intro w'; go_simp; with_reducible rfl); rotate_left; (simp only [Act.put, List.setIfInBounds_toArray, List.set_cons_zero, List.set_cons_succ, i64_w, i32_w]; rfl)
                    refine last_ (i := 8) (N := none) #[true, true, true, true, true, true, true, true, true] rfl rfl (one_of HT_.out (by kernel_rfl)) (by decide) (fun K hK => ?_)
                    have hs120 : w115.cell? ⟨gb131, 5, none⟩ = some (.int .u32 x132005_4) := (blk_cell BK131.out 5).trans rfl
                    have hfs120 := blk_frozen BK131.out 5
                    have hns120_0 := NB104_131.out
                    have hns120_1 := NB105_131.out
                    have hms120_0 := NB131_104.out
                    have hms120_1 := NB131_105.out
                    refine skip_ (w1 := ?_) (by rfl) rfl ?_ ?_
                    rotate_left
                    ·go_simp
                     rfl
                    refine hK.out _ _ ?_
                    clear hK K
                    refine done_ (done_of HT_.out (by kernel_rfl)) ?_
                    try go_wp2
                    go_roundg k4
                    case measure => have := HK1.out; have := HK2.out; have := HK3.out; have := HK4.out; omega
                    case rel => exact ⟨(6), x132000_4, x132001_4, x132002_4, x132003_4, x132004_4, ((x132005_4 + a0_5) % 4294967296), x132006_4, x132007_4, (by first | rfl | (simp; done) | (simp [*]; done)), H', ⟨by have := HK1.out; have := HK2.out; have := HK3.out; have := HK4.out; omega⟩, ⟨by (with_reducible repeat (first | refine blk_drewN ?_ _ | refine blk_drew ?_ | refine blk_alloc ?_ _)); refine blk_far ?_ NB104_131.out _; (with_reducible repeat (first | refine blk_drewN ?_ _ | refine blk_drew ?_ | refine blk_alloc ?_ _)); exact BK104.out⟩, ⟨by (with_reducible repeat (first | refine blk_drewN ?_ _ | refine blk_drew ?_ | refine blk_alloc ?_ _)); refine blk_far ?_ NB105_131.out _; (with_reducible repeat (first | refine blk_drewN ?_ _ | refine blk_drew ?_ | refine blk_alloc ?_ _)); exact BK105.out⟩, ⟨by (with_reducible repeat (first | refine blk_drewN ?_ _ | refine blk_drew ?_ | refine blk_alloc ?_ _)); refine blk_put (cs := #[.int .u32 x132000_4, .int .u32 x132001_4, .int .u32 x132002_4, .int .u32 x132003_4, .int .u32 x132004_4, .int .u32 x132005_4, .int .u32 x132006_4, .int .u32 x132007_4]) ?_ 5 _ rfl; (with_reducible repeat (first | refine blk_drewN ?_ _ | refine blk_drew ?_ | refine blk_alloc ?_ _)); exact BK131.out⟩, ⟨by repeat (first | (with_reducible first | exact HB.out | apply below_alloc | apply pw_below_drewN | apply below_drew1 | refine below_set ?_ GE104.out | refine below_set ?_ GE105.out | refine below_set ?_ GE131.out) | exact HB.out)⟩⟩
                   ·rw [if_neg c114] at H
                    clear c114
                    by_cases c121 : x204_4 = 6
                    ·rw [if_pos c121] at H
                     subst c121
                     rw [show wrap64 (6 + 1) = 7 from by unfold wrap64; decide] at H
                     have H' := Aside0.mk H
                     clear H
                     try go_wp2
                     have n0_ := Aside0.mk (blk_drew BK104.out)
                     have n1_ := Aside0.mk (blk_drew BK105.out)
                     have n2_ := Aside0.mk (blk_drew BK131.out)
                     have n3_ := Aside0.mk (below_drew1 HB.out)
                     clear BK104
                     clear BK105
                     clear BK131
                     clear HB
                     have BK104 := n0_
                     have BK105 := n1_
                     have BK131 := n2_
                     have HB := n3_
                     clear n0_ n1_ n2_ n3_
                     refine start_ (n := 9) (S := fun w' => w'.cell? ⟨gb131, 0, none⟩ = some (.int .u32 x132000_4) ∧ w'.cell? ⟨gb131, 1, none⟩ = some (.int .u32 x132001_4) ∧ w'.cell? ⟨gb131, 2, none⟩ = some (.int .u32 x132002_4) ∧ w'.cell? ⟨gb131, 3, none⟩ = some (.int .u32 x132003_4) ∧ w'.cell? ⟨gb131, 4, none⟩ = some (.int .u32 x132004_4) ∧ w'.cell? ⟨gb131, 5, none⟩ = some (.int .u32 x132005_4) ∧ w'.cell? ⟨gb131, 6, none⟩ = some (.int .u32 x132006_4) ∧ w'.cell? ⟨gb131, 7, none⟩ = some (.int .u32 x132007_4) ∧ w'.cell? ⟨gb104, 0, none⟩ = some (.int .u32 a0_0) ∧ w'.cell? ⟨gb104, 1, none⟩ = some (.int .u32 a0_1) ∧ w'.cell? ⟨gb104, 2, none⟩ = some (.int .u32 a0_2) ∧ w'.cell? ⟨gb104, 3, none⟩ = some (.int .u32 a0_3) ∧ w'.cell? ⟨gb104, 4, none⟩ = some (.int .u32 a0_4) ∧ w'.cell? ⟨gb104, 5, none⟩ = some (.int .u32 a0_5) ∧ w'.cell? ⟨gb104, 6, none⟩ = some (.int .u32 a0_6) ∧ w'.cell? ⟨gb104, 7, none⟩ = some (.int .u32 a0_7)) (ds := [8]) #[false, false, false, false, false, false, false, false, false] (by kernel_rfl) rfl rfl ⟨(blk_cell BK131.out 0).trans rfl, (blk_cell BK131.out 1).trans rfl, (blk_cell BK131.out 2).trans rfl, (blk_cell BK131.out 3).trans rfl, (blk_cell BK131.out 4).trans rfl, (blk_cell BK131.out 5).trans rfl, (blk_cell BK131.out 6).trans rfl, (blk_cell BK131.out 7).trans rfl, (blk_cell BK104.out 0).trans rfl, (blk_cell BK104.out 1).trans rfl, (blk_cell BK104.out 2).trans rfl, (blk_cell BK104.out 3).trans rfl, (blk_cell BK104.out 4).trans rfl, (blk_cell BK104.out 5).trans rfl, (blk_cell BK104.out 6).trans rfl, (blk_cell BK104.out 7).trans rfl⟩ (fun hHeld => ?_); refine with_tabW hash_state_block.tab26 hash_state_block.bits26 (fun HT_ HW_ => ?_)
                     generalize wr.drew = w122 at BK104 BK105 BK131 HB hHeld ⊢
                     refine pure_ (i := 0) (N := some 207) (v := ?_) (a' := ?_) #[true, false, false, false, false, false, false, false, false] rfl rfl (any_of HT_.out (by kernel_rfl)) (fun _ _ _ h => h) (Or.inl ⟨by rfl, ?_⟩) ?_ ?_
                     rotate_left; (intro w'; go_simp; with_reducible rfl); rotate_left; (simp only [Act.put, List.setIfInBounds_toArray, List.set_cons_zero, List.set_cons_succ, i64_w, i32_w]; rfl)
                     refine pure_ (i := 1) (N := some 208) (v := ?_) (a' := ?_) #[true, true, false, false, false, false, false, false, false] rfl rfl (any_of HT_.out (by kernel_rfl)) (fun _ _ _ h => h) (Or.inl ⟨by rfl, ?_⟩) ?_ ?_
                     rotate_left; (intro w'; go_simp; with_reducible rfl); rotate_left; (simp only [Act.put, List.setIfInBounds_toArray, List.set_cons_zero, List.set_cons_succ, i64_w, i32_w]; rfl)
                     refine pure_ (i := 3) (N := some 210) (v := ?_) (a' := ?_) #[true, true, false, true, false, false, false, false, false] rfl rfl (any_of HT_.out (by kernel_rfl)) (fun _ _ _ h => h) (Or.inl ⟨by rfl, ?_⟩) ?_ ?_
                     rotate_left; (intro w'; go_simp; with_reducible rfl); rotate_left; (simp only [Act.put, List.setIfInBounds_toArray, List.set_cons_zero, List.set_cons_succ, i64_w, i32_w]; rfl)
                     refine pure_ (i := 4) (N := some 211) (v := ?_) (a' := ?_) #[true, true, false, true, true, false, false, false, false] rfl rfl (any_of HT_.out (by kernel_rfl)) (fun _ _ _ h => h) (Or.inl ⟨by rfl, ?_⟩) ?_ ?_
                     rotate_left; (intro w'; go_simp; with_reducible rfl); rotate_left; (simp only [Act.put, List.setIfInBounds_toArray, List.set_cons_zero, List.set_cons_succ, i64_w, i32_w]; rfl)
                     refine take_ (i := 2) (N := some 209) (v := ?_) (a' := ?_) #[true, true, true, true, true, false, false, false, false] rfl rfl (take_ofW HT_.out HW_.out (by kernel_rfl)) (fun _ _ _ h => h) (Or.inl ⟨by rfl, ?_⟩) hHeld ?_ ?_
                     rotate_left; (rintro w' ⟨s0, s1, s2, s3, s4, s5, s6, s7, s8, s9, s10, s11, s12, s13, s14, s15⟩; go_simp; with_reducible rfl); rotate_left; (simp only [Act.put, List.setIfInBounds_toArray, List.set_cons_zero, List.set_cons_succ, i64_w, i32_w]; rfl)
                     refine take_ (i := 5) (N := some 212) (v := ?_) (a' := ?_) #[true, true, true, true, true, true, false, false, false] rfl rfl (take_ofW HT_.out HW_.out (by kernel_rfl)) (fun _ _ _ h => h) (Or.inl ⟨by rfl, ?_⟩) hHeld ?_ ?_
                     rotate_left; (rintro w' ⟨s0, s1, s2, s3, s4, s5, s6, s7, s8, s9, s10, s11, s12, s13, s14, s15⟩; go_simp; with_reducible rfl); rotate_left; (simp only [Act.put, List.setIfInBounds_toArray, List.set_cons_zero, List.set_cons_succ, i64_w, i32_w]; rfl)
                     refine pure_ (i := 6) (N := some 213) (v := ?_) (a' := ?_) #[true, true, true, true, true, true, true, false, false] rfl rfl (any_of HT_.out (by kernel_rfl)) (fun _ _ _ h => h) (Or.inl ⟨by rfl, ?_⟩) ?_ ?_
                     rotate_left; (intro w'; go_simp; with_reducible rfl); rotate_left; (simp only [Act.put, List.setIfInBounds_toArray, List.set_cons_zero, List.set_cons_succ, i64_w, i32_w]; rfl)
                     refine pure_ (i := 7) (N := some 214) (v := ?_) (a' := ?_) #[true, true, true, true, true, true, true, true, false] rfl rfl (any_of HT_.out (by kernel_rfl)) (fun _ _ _ h => h) (Or.inl ⟨by rfl, ?_⟩) ?_ ?_
                     rotate_left; (intro w'; go_simp; with_reducible rfl); rotate_left; (simp only [Act.put, List.setIfInBounds_toArray, List.set_cons_zero, List.set_cons_succ, i64_w, i32_w]; rfl)
                     refine last_ (i := 8) (N := none) #[true, true, true, true, true, true, true, true, true] rfl rfl (one_of HT_.out (by kernel_rfl)) (by decide) (fun K hK => ?_)
                     have hs127 : w122.cell? ⟨gb131, 6, none⟩ = some (.int .u32 x132006_4) := (blk_cell BK131.out 6).trans rfl
                     have hfs127 := blk_frozen BK131.out 6
                     have hns127_0 := NB104_131.out
                     have hns127_1 := NB105_131.out
                     have hms127_0 := NB131_104.out
                     have hms127_1 := NB131_105.out
                     refine skip_ (w1 := ?_) (by rfl) rfl ?_ ?_
                     rotate_left
                     ·go_simp
                      rfl
                     refine hK.out _ _ ?_
                     clear hK K
                     refine done_ (done_of HT_.out (by kernel_rfl)) ?_
                     try go_wp2
                     go_roundg k4
                     case measure => have := HK1.out; have := HK2.out; have := HK3.out; have := HK4.out; omega
                     case rel => exact ⟨(7), x132000_4, x132001_4, x132002_4, x132003_4, x132004_4, x132005_4, ((x132006_4 + a0_6) % 4294967296), x132007_4, (by first | rfl | (simp; done) | (simp [*]; done)), H', ⟨by have := HK1.out; have := HK2.out; have := HK3.out; have := HK4.out; omega⟩, ⟨by (with_reducible repeat (first | refine blk_drewN ?_ _ | refine blk_drew ?_ | refine blk_alloc ?_ _)); refine blk_far ?_ NB104_131.out _; (with_reducible repeat (first | refine blk_drewN ?_ _ | refine blk_drew ?_ | refine blk_alloc ?_ _)); exact BK104.out⟩, ⟨by (with_reducible repeat (first | refine blk_drewN ?_ _ | refine blk_drew ?_ | refine blk_alloc ?_ _)); refine blk_far ?_ NB105_131.out _; (with_reducible repeat (first | refine blk_drewN ?_ _ | refine blk_drew ?_ | refine blk_alloc ?_ _)); exact BK105.out⟩, ⟨by (with_reducible repeat (first | refine blk_drewN ?_ _ | refine blk_drew ?_ | refine blk_alloc ?_ _)); refine blk_put (cs := #[.int .u32 x132000_4, .int .u32 x132001_4, .int .u32 x132002_4, .int .u32 x132003_4, .int .u32 x132004_4, .int .u32 x132005_4, .int .u32 x132006_4, .int .u32 x132007_4]) ?_ 6 _ rfl; (with_reducible repeat (first | refine blk_drewN ?_ _ | refine blk_drew ?_ | refine blk_alloc ?_ _)); exact BK131.out⟩, ⟨by repeat (first | (with_reducible first | exact HB.out | apply below_alloc | apply pw_below_drewN | apply below_drew1 | refine below_set ?_ GE104.out | refine below_set ?_ GE105.out | refine below_set ?_ GE131.out) | exact HB.out)⟩⟩
                    ·rw [if_neg c121] at H
                     clear c121
                     by_cases c128 : x204_4 = 7
                     ·rw [if_pos c128] at H
                      subst c128
                      rw [show wrap64 (7 + 1) = 8 from by unfold wrap64; decide] at H
                      have H' := Aside0.mk H
                      clear H
                      try go_wp2
                      have n0_ := Aside0.mk (blk_drew BK104.out)
                      have n1_ := Aside0.mk (blk_drew BK105.out)
                      have n2_ := Aside0.mk (blk_drew BK131.out)
                      have n3_ := Aside0.mk (below_drew1 HB.out)
                      clear BK104
                      clear BK105
                      clear BK131
                      clear HB
                      have BK104 := n0_
                      have BK105 := n1_
                      have BK131 := n2_
                      have HB := n3_
                      clear n0_ n1_ n2_ n3_
                      refine start_ (n := 9) (S := fun w' => w'.cell? ⟨gb131, 0, none⟩ = some (.int .u32 x132000_4) ∧ w'.cell? ⟨gb131, 1, none⟩ = some (.int .u32 x132001_4) ∧ w'.cell? ⟨gb131, 2, none⟩ = some (.int .u32 x132002_4) ∧ w'.cell? ⟨gb131, 3, none⟩ = some (.int .u32 x132003_4) ∧ w'.cell? ⟨gb131, 4, none⟩ = some (.int .u32 x132004_4) ∧ w'.cell? ⟨gb131, 5, none⟩ = some (.int .u32 x132005_4) ∧ w'.cell? ⟨gb131, 6, none⟩ = some (.int .u32 x132006_4) ∧ w'.cell? ⟨gb131, 7, none⟩ = some (.int .u32 x132007_4) ∧ w'.cell? ⟨gb104, 0, none⟩ = some (.int .u32 a0_0) ∧ w'.cell? ⟨gb104, 1, none⟩ = some (.int .u32 a0_1) ∧ w'.cell? ⟨gb104, 2, none⟩ = some (.int .u32 a0_2) ∧ w'.cell? ⟨gb104, 3, none⟩ = some (.int .u32 a0_3) ∧ w'.cell? ⟨gb104, 4, none⟩ = some (.int .u32 a0_4) ∧ w'.cell? ⟨gb104, 5, none⟩ = some (.int .u32 a0_5) ∧ w'.cell? ⟨gb104, 6, none⟩ = some (.int .u32 a0_6) ∧ w'.cell? ⟨gb104, 7, none⟩ = some (.int .u32 a0_7)) (ds := [8]) #[false, false, false, false, false, false, false, false, false] (by kernel_rfl) rfl rfl ⟨(blk_cell BK131.out 0).trans rfl, (blk_cell BK131.out 1).trans rfl, (blk_cell BK131.out 2).trans rfl, (blk_cell BK131.out 3).trans rfl, (blk_cell BK131.out 4).trans rfl, (blk_cell BK131.out 5).trans rfl, (blk_cell BK131.out 6).trans rfl, (blk_cell BK131.out 7).trans rfl, (blk_cell BK104.out 0).trans rfl, (blk_cell BK104.out 1).trans rfl, (blk_cell BK104.out 2).trans rfl, (blk_cell BK104.out 3).trans rfl, (blk_cell BK104.out 4).trans rfl, (blk_cell BK104.out 5).trans rfl, (blk_cell BK104.out 6).trans rfl, (blk_cell BK104.out 7).trans rfl⟩ (fun hHeld => ?_); refine with_tabW hash_state_block.tab26 hash_state_block.bits26 (fun HT_ HW_ => ?_)
                      generalize wr.drew = w129 at BK104 BK105 BK131 HB hHeld ⊢
                      refine pure_ (i := 0) (N := some 207) (v := ?_) (a' := ?_) #[true, false, false, false, false, false, false, false, false] rfl rfl (any_of HT_.out (by kernel_rfl)) (fun _ _ _ h => h) (Or.inl ⟨by rfl, ?_⟩) ?_ ?_
                      rotate_left; (intro w'; go_simp; with_reducible rfl); rotate_left; (simp only [Act.put, List.setIfInBounds_toArray, List.set_cons_zero, List.set_cons_succ, i64_w, i32_w]; rfl)
                      refine pure_ (i := 1) (N := some 208) (v := ?_) (a' := ?_) #[true, true, false, false, false, false, false, false, false] rfl rfl (any_of HT_.out (by kernel_rfl)) (fun _ _ _ h => h) (Or.inl ⟨by rfl, ?_⟩) ?_ ?_
                      rotate_left; (intro w'; go_simp; with_reducible rfl); rotate_left; (simp only [Act.put, List.setIfInBounds_toArray, List.set_cons_zero, List.set_cons_succ, i64_w, i32_w]; rfl)
                      refine pure_ (i := 3) (N := some 210) (v := ?_) (a' := ?_) #[true, true, false, true, false, false, false, false, false] rfl rfl (any_of HT_.out (by kernel_rfl)) (fun _ _ _ h => h) (Or.inl ⟨by rfl, ?_⟩) ?_ ?_
                      rotate_left; (intro w'; go_simp; with_reducible rfl); rotate_left; (simp only [Act.put, List.setIfInBounds_toArray, List.set_cons_zero, List.set_cons_succ, i64_w, i32_w]; rfl)
                      refine pure_ (i := 4) (N := some 211) (v := ?_) (a' := ?_) #[true, true, false, true, true, false, false, false, false] rfl rfl (any_of HT_.out (by kernel_rfl)) (fun _ _ _ h => h) (Or.inl ⟨by rfl, ?_⟩) ?_ ?_
                      rotate_left; (intro w'; go_simp; with_reducible rfl); rotate_left; (simp only [Act.put, List.setIfInBounds_toArray, List.set_cons_zero, List.set_cons_succ, i64_w, i32_w]; rfl)
                      refine take_ (i := 2) (N := some 209) (v := ?_) (a' := ?_) #[true, true, true, true, true, false, false, false, false] rfl rfl (take_ofW HT_.out HW_.out (by kernel_rfl)) (fun _ _ _ h => h) (Or.inl ⟨by rfl, ?_⟩) hHeld ?_ ?_
                      rotate_left; (rintro w' ⟨s0, s1, s2, s3, s4, s5, s6, s7, s8, s9, s10, s11, s12, s13, s14, s15⟩; go_simp; with_reducible rfl); rotate_left; (simp only [Act.put, List.setIfInBounds_toArray, List.set_cons_zero, List.set_cons_succ, i64_w, i32_w]; rfl)
                      refine take_ (i := 5) (N := some 212) (v := ?_) (a' := ?_) #[true, true, true, true, true, true, false, false, false] rfl rfl (take_ofW HT_.out HW_.out (by kernel_rfl)) (fun _ _ _ h => h) (Or.inl ⟨by rfl, ?_⟩) hHeld ?_ ?_
                      rotate_left; (rintro w' ⟨s0, s1, s2, s3, s4, s5, s6, s7, s8, s9, s10, s11, s12, s13, s14, s15⟩; go_simp; with_reducible rfl); rotate_left; (simp only [Act.put, List.setIfInBounds_toArray, List.set_cons_zero, List.set_cons_succ, i64_w, i32_w]; rfl)
                      refine pure_ (i := 6) (N := some 213) (v := ?_) (a' := ?_) #[true, true, true, true, true, true, true, false, false] rfl rfl (any_of HT_.out (by kernel_rfl)) (fun _ _ _ h => h) (Or.inl ⟨by rfl, ?_⟩) ?_ ?_
                      rotate_left; (intro w'; go_simp; with_reducible rfl); rotate_left; (simp only [Act.put, List.setIfInBounds_toArray, List.set_cons_zero, List.set_cons_succ, i64_w, i32_w]; rfl)
                      refine pure_ (i := 7) (N := some 214) (v := ?_) (a' := ?_) #[true, true, true, true, true, true, true, true, false] rfl rfl (any_of HT_.out (by kernel_rfl)) (fun _ _ _ h => h) (Or.inl ⟨by rfl, ?_⟩) ?_ ?_
                      rotate_left; (intro w'; go_simp; with_reducible rfl); rotate_left; (simp only [Act.put, List.setIfInBounds_toArray, List.set_cons_zero, List.set_cons_succ, i64_w, i32_w]; rfl)
                      refine last_ (i := 8) (N := none) #[true, true, true, true, true, true, true, true, true] rfl rfl (one_of HT_.out (by kernel_rfl)) (by decide) (fun K hK => ?_)
                      have hs134 : w129.cell? ⟨gb131, 7, none⟩ = some (.int .u32 x132007_4) := (blk_cell BK131.out 7).trans rfl
                      have hfs134 := blk_frozen BK131.out 7
                      have hns134_0 := NB104_131.out
                      have hns134_1 := NB105_131.out
                      have hms134_0 := NB131_104.out
                      have hms134_1 := NB131_105.out
                      refine skip_ (w1 := ?_) (by rfl) rfl ?_ ?_
                      rotate_left
                      ·go_simp
                       rfl
                      refine hK.out _ _ ?_
                      clear hK K
                      refine done_ (done_of HT_.out (by kernel_rfl)) ?_
                      try go_wp2
                      go_roundg k4
                      case measure => have := HK1.out; have := HK2.out; have := HK3.out; have := HK4.out; omega
                      case rel => exact ⟨(8), x132000_4, x132001_4, x132002_4, x132003_4, x132004_4, x132005_4, x132006_4, ((x132007_4 + a0_7) % 4294967296), (by first | rfl | (simp; done) | (simp [*]; done)), H', ⟨by have := HK1.out; have := HK2.out; have := HK3.out; have := HK4.out; omega⟩, ⟨by (with_reducible repeat (first | refine blk_drewN ?_ _ | refine blk_drew ?_ | refine blk_alloc ?_ _)); refine blk_far ?_ NB104_131.out _; (with_reducible repeat (first | refine blk_drewN ?_ _ | refine blk_drew ?_ | refine blk_alloc ?_ _)); exact BK104.out⟩, ⟨by (with_reducible repeat (first | refine blk_drewN ?_ _ | refine blk_drew ?_ | refine blk_alloc ?_ _)); refine blk_far ?_ NB105_131.out _; (with_reducible repeat (first | refine blk_drewN ?_ _ | refine blk_drew ?_ | refine blk_alloc ?_ _)); exact BK105.out⟩, ⟨by (with_reducible repeat (first | refine blk_drewN ?_ _ | refine blk_drew ?_ | refine blk_alloc ?_ _)); refine blk_put (cs := #[.int .u32 x132000_4, .int .u32 x132001_4, .int .u32 x132002_4, .int .u32 x132003_4, .int .u32 x132004_4, .int .u32 x132005_4, .int .u32 x132006_4, .int .u32 x132007_4]) ?_ 7 _ rfl; (with_reducible repeat (first | refine blk_drewN ?_ _ | refine blk_drew ?_ | refine blk_alloc ?_ _)); exact BK131.out⟩, ⟨by repeat (first | (with_reducible first | exact HB.out | apply below_alloc | apply pw_below_drewN | apply below_drew1 | refine below_set ?_ GE104.out | refine below_set ?_ GE105.out | refine below_set ?_ GE131.out) | exact HB.out)⟩⟩
                     ·rw [if_neg c128] at H
                      clear c128
                      exact absurd H (by simp)
             ·rw [if_neg c78] at H
              have c78b0 : decide (x204_4 < 8) = false := decide_eq_false c78
              clear c78
              simp only [Option.some.injEq, Prod.mk.injEq] at H
              obtain ⟨rfl, rfl, rfl, rfl, rfl, rfl, rfl, rfl⟩ := H
              have hnb135 := NB131_104.out
              have hnc135 := NB104_131.out
              have hnb136 := NB131_105.out
              have hnc136 := NB105_131.out
              have hcz137_0 : wr.cell? ⟨gb131, 0, none⟩ = some (.int .u32 x132000_4) := (blk_cell BK131.out 0).trans rfl
              have hcz137_1 : wr.cell? ⟨gb131, 1, none⟩ = some (.int .u32 x132001_4) := (blk_cell BK131.out 1).trans rfl
              have hcz137_2 : wr.cell? ⟨gb131, 2, none⟩ = some (.int .u32 x132002_4) := (blk_cell BK131.out 2).trans rfl
              have hcz137_3 : wr.cell? ⟨gb131, 3, none⟩ = some (.int .u32 x132003_4) := (blk_cell BK131.out 3).trans rfl
              have hcz137_4 : wr.cell? ⟨gb131, 4, none⟩ = some (.int .u32 x132004_4) := (blk_cell BK131.out 4).trans rfl
              have hcz137_5 : wr.cell? ⟨gb131, 5, none⟩ = some (.int .u32 x132005_4) := (blk_cell BK131.out 5).trans rfl
              have hcz137_6 : wr.cell? ⟨gb131, 6, none⟩ = some (.int .u32 x132006_4) := (blk_cell BK131.out 6).trans rfl
              have hcz137_7 : wr.cell? ⟨gb131, 7, none⟩ = some (.int .u32 x132007_4) := (blk_cell BK131.out 7).trans rfl
              have hfz137_0 := blk_frozen BK131.out 0
              have hfz137_1 := blk_frozen BK131.out 1
              have hfz137_2 := blk_frozen BK131.out 2
              have hfz137_3 := blk_frozen BK131.out 3
              have hfz137_4 := blk_frozen BK131.out 4
              have hfz137_5 := blk_frozen BK131.out 5
              have hfz137_6 := blk_frozen BK131.out 6
              have hfz137_7 := blk_frozen BK131.out 7
              have hnb138 := NB105_104.out
              have hnc138 := NB104_105.out
              have hcz139_0 : wr.cell? ⟨gb105, 0, none⟩ = some (.int .u32 0) := (blk_cell BK105.out 0).trans rfl
              have hcz139_1 : wr.cell? ⟨gb105, 1, none⟩ = some (.int .u32 0) := (blk_cell BK105.out 1).trans rfl
              have hcz139_2 : wr.cell? ⟨gb105, 2, none⟩ = some (.int .u32 0) := (blk_cell BK105.out 2).trans rfl
              have hcz139_3 : wr.cell? ⟨gb105, 3, none⟩ = some (.int .u32 0) := (blk_cell BK105.out 3).trans rfl
              have hcz139_4 : wr.cell? ⟨gb105, 4, none⟩ = some (.int .u32 0) := (blk_cell BK105.out 4).trans rfl
              have hcz139_5 : wr.cell? ⟨gb105, 5, none⟩ = some (.int .u32 0) := (blk_cell BK105.out 5).trans rfl
              have hcz139_6 : wr.cell? ⟨gb105, 6, none⟩ = some (.int .u32 0) := (blk_cell BK105.out 6).trans rfl
              have hcz139_7 : wr.cell? ⟨gb105, 7, none⟩ = some (.int .u32 0) := (blk_cell BK105.out 7).trans rfl
              have hfz139_0 := blk_frozen BK105.out 0
              have hfz139_1 := blk_frozen BK105.out 1
              have hfz139_2 := blk_frozen BK105.out 2
              have hfz139_3 := blk_frozen BK105.out 3
              have hfz139_4 := blk_frozen BK105.out 4
              have hfz139_5 := blk_frozen BK105.out 5
              have hfz139_6 := blk_frozen BK105.out 6
              have hfz139_7 := blk_frozen BK105.out 7
              go_wp2
              refine bodyPost_ret (results_cell_row rfl _ _ gb105 37 #[.int .u32 x132000_4, .int .u32 x132001_4, .int .u32 x132002_4, .int .u32 x132003_4, .int .u32 x132004_4, .int .u32 x132005_4, .int .u32 x132006_4, .int .u32 x132007_4] (0, 0) _ rfl (by (with_reducible repeat (first | refine blk_drewN ?_ _ | refine blk_drew ?_ | refine blk_alloc ?_ _)); refine blk_put (cs := #[.int .u32 x132000_4, .int .u32 x132001_4, .int .u32 x132002_4, .int .u32 x132003_4, .int .u32 x132004_4, .int .u32 x132005_4, .int .u32 x132006_4, .int .u32 0]) ?_ 7 _ rfl; (with_reducible repeat (first | refine blk_drewN ?_ _ | refine blk_drew ?_ | refine blk_alloc ?_ _)); refine blk_put (cs := #[.int .u32 x132000_4, .int .u32 x132001_4, .int .u32 x132002_4, .int .u32 x132003_4, .int .u32 x132004_4, .int .u32 x132005_4, .int .u32 0, .int .u32 0]) ?_ 6 _ rfl; (with_reducible repeat (first | refine blk_drewN ?_ _ | refine blk_drew ?_ | refine blk_alloc ?_ _)); refine blk_put (cs := #[.int .u32 x132000_4, .int .u32 x132001_4, .int .u32 x132002_4, .int .u32 x132003_4, .int .u32 x132004_4, .int .u32 0, .int .u32 0, .int .u32 0]) ?_ 5 _ rfl; (with_reducible repeat (first | refine blk_drewN ?_ _ | refine blk_drew ?_ | refine blk_alloc ?_ _)); refine blk_put (cs := #[.int .u32 x132000_4, .int .u32 x132001_4, .int .u32 x132002_4, .int .u32 x132003_4, .int .u32 0, .int .u32 0, .int .u32 0, .int .u32 0]) ?_ 4 _ rfl; (with_reducible repeat (first | refine blk_drewN ?_ _ | refine blk_drew ?_ | refine blk_alloc ?_ _)); refine blk_put (cs := #[.int .u32 x132000_4, .int .u32 x132001_4, .int .u32 x132002_4, .int .u32 0, .int .u32 0, .int .u32 0, .int .u32 0, .int .u32 0]) ?_ 3 _ rfl; (with_reducible repeat (first | refine blk_drewN ?_ _ | refine blk_drew ?_ | refine blk_alloc ?_ _)); refine blk_put (cs := #[.int .u32 x132000_4, .int .u32 x132001_4, .int .u32 0, .int .u32 0, .int .u32 0, .int .u32 0, .int .u32 0, .int .u32 0]) ?_ 2 _ rfl; (with_reducible repeat (first | refine blk_drewN ?_ _ | refine blk_drew ?_ | refine blk_alloc ?_ _)); refine blk_put (cs := #[.int .u32 x132000_4, .int .u32 0, .int .u32 0, .int .u32 0, .int .u32 0, .int .u32 0, .int .u32 0, .int .u32 0]) ?_ 1 _ rfl; (with_reducible repeat (first | refine blk_drewN ?_ _ | refine blk_drew ?_ | refine blk_alloc ?_ _)); refine blk_put (cs := #[.int .u32 0, .int .u32 0, .int .u32 0, .int .u32 0, .int .u32 0, .int .u32 0, .int .u32 0, .int .u32 0]) ?_ 0 _ rfl; (with_reducible repeat (first | refine blk_drewN ?_ _ | refine blk_drew ?_ | refine blk_alloc ?_ _)); exact BK105.out) Try.underlying37 rfl (by kernel_rfl)) rfl ?_
              exact ⟨by first | rfl | (simp [errW_none, errW_some] <;> rfl) | (simp [*, errW_none, errW_some] <;> rfl), by repeat (first | (with_reducible first | exact HB.out | apply below_alloc | apply pw_below_drewN | apply below_drew1 | refine below_set ?_ GE104.out | refine below_set ?_ GE105.out | refine below_set ?_ GE131.out) | exact HB.out)⟩
       ·rw [if_neg c51] at H
        exact absurd H (by simp)

end Go.Proofs.Ytpiakeejfggocab.Q
