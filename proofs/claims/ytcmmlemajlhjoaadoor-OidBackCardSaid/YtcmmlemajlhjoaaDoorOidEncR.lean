/- How an object identifier's contents are written, by the program and by the document's definition. -/
import Derived.Test.YtcmmlemajlhjoaaDoorRx4
import Derived.Test.YtcmmlemajlhjoaaDoorRx5
import Derived.Test.YtcmmlemajlhjoaaDoorRx6
import Derived.Test.YtcmmlemajlhjoaaDoorOidR
set_option linter.unusedVariables false
set_option linter.unusedSimpArgs false
namespace Go.Proofs.YtcmmlemajlhjoaaDoor.Oid
open Go Go.RowKit Go.Proofs.YtcmmlemajlhjoaaDoor.Q Go.Proofs.YtcmmlemajlhjoaaDoorW.PrintWords Go.Proofs.YtcmmlemajlhjoaaDoorW.PrintLast Go.Proofs.YtcmmlemajlhjoaaDoorW.PrintMore Go.Proofs.YtcmmlemajlhjoaaDoor.Num Go.Proofs.YtcmmlemajlhjoaaDoor.Str

def G (n : Nat) : Nat → List Int
  | 0 => []
  | i + 1 => (((n / 128 ^ (i + 1)) % 128 + 128 : Nat) : Int) :: G n i
def P (n : Nat) : Nat → List Int
  | 0 => []
  | i + 1 => (((n / 128 ^ i) % 128 : Nat) : Int) :: P n i
def K (n : Nat) : Nat := if n < 128 then 1 else if n < 16384 then 2 else if n < 2097152 then 3 else if n < 268435456 then 4 else 5
def E (v : Int) : List Int := G v.toNat (K v.toNat - 1) ++ [((v.toNat % 128 : Nat) : Int)]
def encS (l : List Int) : List Int := ((40 * rd l 0 + rd l 1) :: l.drop 2).flatMap E
theorem K_facts (n : Nat) (h : n < 34359738368) : 1 ≤ K n ∧ K n ≤ 5 ∧ n / 128 ^ K n = 0 ∧ ∀ m, 1 ≤ m → m < K n → n / 128 ^ m ≠ 0 := by
  unfold K
  have p1 : (128 : Nat) ^ 1 = 128 := rfl
  have p2 : (128 : Nat) ^ 2 = 16384 := rfl
  have p3 : (128 : Nat) ^ 3 = 2097152 := rfl
  have p4 : (128 : Nat) ^ 4 = 268435456 := rfl
  have p5 : (128 : Nat) ^ 5 = 34359738368 := rfl
  split
  · exact ⟨by omega, by omega, by rw [p1]; omega, fun m h1 h2 => by omega⟩
  split
  · refine ⟨by omega, by omega, by rw [p2]; omega, fun m h1 h2 => ?_⟩
    obtain rfl : m = 1 := by omega
    rw [p1]; omega
  split
  · refine ⟨by omega, by omega, by rw [p3]; omega, fun m h1 h2 => ?_⟩
    rcases (by omega : m = 1 ∨ m = 2) with rfl | rfl
    · rw [p1]; omega
    · rw [p2]; omega
  split
  · refine ⟨by omega, by omega, by rw [p4]; omega, fun m h1 h2 => ?_⟩
    rcases (by omega : m = 1 ∨ m = 2 ∨ m = 3) with rfl | rfl | rfl
    · rw [p1]; omega
    · rw [p2]; omega
    · rw [p3]; omega
  · refine ⟨by omega, by omega, by rw [p5]; omega, fun m h1 h2 => ?_⟩
    rcases (by omega : m = 1 ∨ m = 2 ∨ m = 3 ∨ m = 4) with rfl | rfl | rfl | rfl
    · rw [p1]; omega
    · rw [p2]; omega
    · rw [p3]; omega
    · rw [p4]; omega
theorem G_len (n : Nat) : ∀ i, (G n i).length = i
  | 0 => rfl
  | i + 1 => by simp [G, G_len n i]
theorem E_len (v : Int) (h0 : 0 ≤ v) (h1 : v < 34359738368) : (E v).length ≤ 5 := by
  unfold E
  have := (K_facts v.toNat (by omega)).2.1
  rw [List.length_append, G_len]; simp; omega
theorem shr7 (n j : Nat) (hj : j ≤ 9) : shr .i64 (n : Int) (IntKind.u64.wrap (7 * IntKind.u64.wrap (j : Int))) = ((n / 128 ^ j : Nat) : Int) := by
  rw [u64 (j : Int) (by omega) (by omega), u64 _ (by omega) (by omega)]
  have e : (7 * (j : Int)) = ((7 * j : Nat) : Int) := by omega
  rw [e, shr_i64_nat n (7 * j) (by omega), Nat.pow_mul]
theorem shr7_nn (j : Nat) (hj : j ≤ 9) : 0 ≤ IntKind.u64.wrap (7 * IntKind.u64.wrap (j : Int)) := by
  rw [u64 (j : Int) (by omega) (by omega), u64 _ (by omega) (by omega)]; omega
theorem and127 (x : Nat) (h1 : x < 9223372036854775808) : bits .and .i64 (x : Int) 127 = ((x % 128 : Nat) : Int) := by
  have e : bits .and .i64 (x : Int) 127 = wrap64 ((((x : Int) % 18446744073709551616).toNat &&& ((127 : Int) % 18446744073709551616).toNat : Nat) : Int) := by
    unfold bits
    rw [← i64w]
    rfl
  have e1 : ((x : Int) % 18446744073709551616).toNat = x := by omega
  have e2 : ((127 : Int) % 18446744073709551616).toNat = 2 ^ 7 - 1 := rfl
  rw [e, e1, e2, Nat.and_two_pow_sub_one_eq_mod, w64 _ (by omega) (by omega)]
theorem or128 (y : Nat) (hy : y < 128) : bits .or .i64 (y : Int) 128 = ((y + 128 : Nat) : Int) := by
  have h := or_i64_nat y 128 (by omega) (by omega)
  have e : ((128 : Nat) : Int) = 128 := rfl
  rw [e] at h
  have hall : ∀ z : Fin 128, (z.val ||| 128) = z.val + 128 := by decide
  rw [h, hall ⟨y, hy⟩]
theorem put_l1 (n : Nat) (hn : n < 9223372036854775808) : ∀ (i : Nat) (b : List Int), i ≤ 8 → b.length ≤ 100000 - i → Ev (fun k => oid_put.l1 k b n i) (b ++ (G n i ++ [((n % 128 : Nat) : Int)]))
  | 0, b, hi, hb => by
    refine Ev.step (f := fun _ => some _) (fun k => ?_) (Ev.now _)
    simp only [oid_put.l1]
    rw [if_neg (by decide), if_pos (by omega), and127 n hn]
    have e : ((n % 128 : Nat) : Int) % 256 = ((n % 128 : Nat) : Int) := by omega
    rw [e]; rfl
  | i + 1, b, hi, hb => by
    have ih := put_l1 n hn i (b ++ [(((n / 128 ^ (i + 1)) % 128 + 128 : Nat) : Int)]) (by omega) (by simp; omega)
    rw [List.append_assoc, List.singleton_append] at ih
    refine Ev.step (fun k => ?_) ih
    simp only [oid_put.l1]
    have hle : n / 128 ^ (i + 1) ≤ n := Nat.div_le_self _ _
    rw [if_pos (by omega), if_pos (shr7_nn (i + 1) (by omega)), if_pos (by omega), shr7 n (i + 1) (by omega), and127 _ (by omega), or128 _ (Nat.mod_lt _ (by decide)), w64 _ (by omega) (by omega)]
    have e : ((n / 128 ^ (i + 1) % 128 + 128 : Nat) : Int) % 256 = ((n / 128 ^ (i + 1) % 128 + 128 : Nat) : Int) := by omega
    have e2 : (((i + 1 : Nat) : Int) - 1) = (i : Int) := by omega
    rw [e, e2]
theorem put_l0 (n : Nat) (hn : n < 34359738368) (b : List Int) (hb : b.length ≤ 90000) : ∀ (d j : Nat), j + d = K n → 1 ≤ j → Ev (fun k => oid_put.l0 k b n j) (b ++ (G n (K n - 1) ++ [((n % 128 : Nat) : Int)]))
  | 0, j, hj, h1 => by
    have hj' : j = K n := by omega
    obtain ⟨k1, k5, kz, _⟩ := K_facts n hn
    refine Ev.step (fun k => ?_) (put_l1 n (by omega) (K n - 1) b (by omega) (by omega))
    simp only [oid_put.l0]
    rw [if_pos (shr7_nn j (by omega)), shr7 n j (by omega), hj', kz, if_neg (by decide), w64 _ (by omega) (by omega)]
    have e : ((K n : Nat) : Int) - 1 = ((K n - 1 : Nat) : Int) := by omega
    rw [e]
  | d + 1, j, hj, h1 => by
    obtain ⟨k1, k5, kz, km⟩ := K_facts n hn
    have hne := km j h1 (by omega)
    refine Ev.step (fun k => ?_) (put_l0 n hn b hb d (j + 1) (by omega) (by omega))
    simp only [oid_put.l0]
    have hpos : 0 < n / 128 ^ j := Nat.pos_of_ne_zero hne
    rw [if_pos (shr7_nn j (by omega)), shr7 n j (by omega), if_pos (by omega), w64 _ (by omega) (by omega)]
    rfl
theorem put_f (b : List Int) (hb : b.length ≤ 90000) (v : Int) (h0 : 0 ≤ v) (h1 : v < 34359738368) : Ev (fun k => oid_put.f k b v) (b ++ E v) := by
  have := put_l0 v.toNat (by omega) b hb (K v.toNat - 1) 1 (by have := (K_facts v.toNat (by omega)).1; omega) (Nat.le_refl _)
  have e : ((v.toNat : Nat) : Int) = v := by omega
  rw [e] at this
  exact this
theorem enc_loop (xs : List Int) (hx : ∀ v ∈ xs, 0 ≤ v ∧ v < 34359738368) (hl : xs.length ≤ 100) : ∀ (d i : Nat) (b : List Int), i + d = xs.length → b.length ≤ 100 + 5 * i →
    Ev (fun k => oid_Encode.l0 k b xs xs.length i) (strOfNums (b ++ (xs.drop i).flatMap E), 0)
  | 0, i, b, hi, hb => by
    have hi' : i = xs.length := by omega
    subst hi'
    rw [List.drop_length, List.flatMap_nil, List.append_nil]
    exact Ev.step (f := fun _ => some _) (fun k => by simp only [oid_Encode.l0]; rw [if_neg (by omega)]) (Ev.now _)
  | d + 1, i, b, hi, hb => by
    have hlt : i < xs.length := by omega
    have hr := drop_rd xs i hlt
    have hm : rd xs i ∈ xs := by
      unfold rd
      rw [Int.toNat_natCast, List.getD_eq_getElem?_getD, List.getElem?_eq_getElem hlt]
      exact List.getElem_mem _
    have hv := hx _ hm
    have hE := E_len _ hv.1 hv.2
    rw [hr, List.flatMap_cons]
    refine Ev.step (fun k => by simp only [oid_Encode.l0]; rw [if_pos (by omega), if_pos (by omega), if_pos (by omega), w64 _ (by omega) (by omega)]) ?_
    refine Ev.bind (put_f b (by omega) _ hv.1 hv.2) ?_
    have ih := enc_loop xs hx hl d (i + 1) (b ++ E (rd xs i)) (by omega) (by rw [List.length_append]; omega)
    rw [List.append_assoc] at ih
    exact ih
def outS (o : Option (List Int)) : ByteArray × Int := match o with
  | some l => (strOfNums (encS l), 0)
  | none => (⟨#[]⟩, 11)
theorem rd_mem (l : List Int) (i : Nat) (h : i < l.length) : rd l i ∈ l := by
  unfold rd
  rw [Int.toNat_natCast, List.getD_eq_getElem?_getD, List.getElem?_eq_getElem h]
  exact List.getElem_mem _
theorem first_range (l : List Int) (h2 : 2 ≤ l.length) (hv : ∀ v ∈ l, 0 ≤ v ∧ v ≤ 2147483647) (hr : rootB (rd l 0) (rd l 1) = true) : 0 ≤ rd l 0 ∧ rd l 0 ≤ 2 ∧ 0 ≤ rd l 1 ∧ rd l 1 ≤ 2147483647 ∧ 0 ≤ 40 * rd l 0 + rd l 1 ∧ 40 * rd l 0 + rd l 1 < 34359738368 := by
  have a0 := hv _ (rd_mem l 0 (by omega))
  have a1 := hv _ (rd_mem l 1 (by omega))
  have e0 : ((0 : Nat) : Int) = 0 := rfl
  have e1 : ((1 : Nat) : Int) = 1 := rfl
  rw [e0] at a0
  rw [e1] at a1
  unfold rootB at hr
  have : rd l 0 ≤ 2 := by
    simp only [Bool.or_eq_true, Bool.and_eq_true, decide_eq_true_eq] at hr
    omega
  exact ⟨a0.1, this, a1.1, a1.2, by omega, by omega⟩
theorem enc_p (s : ByteArray) (hs : s.size ≤ 100000) : Ev (fun k => oid_Encode.f k s) (outS (arcsS s)) := by
  refine Ev.bind (arcs_p s hs) ?_
  cases h : arcsS s with
  | none => exact Ev.congr (f := fun _ => some _) (fun k => by rw [if_pos (by rfl)]; rfl) (Ev.now _)
  | some l =>
    obtain ⟨h2, h12, hv, hr⟩ := arcs_len s l h
    obtain ⟨a, b, c, d, e, f⟩ := first_range l h2 hv hr
    simp only [Option.getD_some]
    refine Ev.congr (fun k => by rw [if_neg (by omega), if_pos (by omega), if_pos (by omega), w64 (40 * rd l 0) (by omega) (by omega), w64 _ (by omega) (by omega)]) ?_
    refine Ev.bind (put_f [] (by simp) _ e f) ?_
    refine Ev.congr (fun k => by rw [if_pos (by omega), Option.bind_some]) ?_
    have hE := E_len _ e f
    have := enc_loop (l.drop 2) (fun v hm => by have := hv v (List.mem_of_mem_drop hm); omega) (by rw [List.length_drop]; omega) (l.drop 2).length 0 ([] ++ E (40 * rd l 0 + rd l 1)) (by omega) (by rw [List.nil_append]; omega)
    rw [List.drop_zero, List.nil_append] at this
    have e9 : outS (some l) = (strOfNums (E (40 * rd l 0 + rd l 1) ++ (l.drop 2).flatMap E), 0) := by
      unfold outS encS
      simp only [List.flatMap_cons]
    rw [e9]
    exact this

theorem awake_true : Ev (fun k => certpathlaw04_awake.f k) true := by
  unfold certpathlaw04_awake.f
  refine Ev.bind (enc_p _ (by decide)) ?_
  have e1 : outS (arcsS ⟨#[50, 46, 53, 46, 50, 57, 46, 49, 57]⟩) = (⟨#[85, 29, 19]⟩, 0) := by kernel_rfl
  have e2 : (arcsS ⟨#[49, 46, 52, 48]⟩).isSome = false := by kernel_rfl
  have e3 : (arcsS ⟨#[50, 46, 52, 48]⟩).isSome = true := by kernel_rfl
  rw [e1]
  refine Ev.congr (fun k => by rw [if_pos rfl, if_pos (by rw [toList_L])]) ?_
  refine Ev.bind (valid_p _ (by decide)) ?_
  rw [e2]
  refine Ev.congr (fun k => by rw [if_neg (by decide)]) ?_
  refine Ev.bind (valid_p _ (by decide)) ?_
  rw [e3]
  exact Ev.now _
end Go.Proofs.YtcmmlemajlhjoaaDoor.Oid
