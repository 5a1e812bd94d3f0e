/- Numbers in decimal digits, and the object identifiers that the laws make. -/
import Derived.Test.YtcmmlemajlhjoaaDoorRx11
import Derived.Test.YtcmmlemajlhjoaaDoorRx14
import Derived.Test.YtcmmlemajlhjoaaDoorOidEncR
set_option linter.unusedVariables false
set_option linter.unusedSimpArgs false
namespace Go.Proofs.YtcmmlemajlhjoaaDoor.Oid
open Go Go.RowKit Go.Proofs.YtcmmlemajlhjoaaDoor.Q Go.Proofs.YtcmmlemajlhjoaaDoorW.PrintWords Go.Proofs.YtcmmlemajlhjoaaDoorW.PrintLast Go.Proofs.YtcmmlemajlhjoaaDoorW.PrintMore Go.Proofs.YtcmmlemajlhjoaaDoor.Num Go.Proofs.YtcmmlemajlhjoaaDoor.Str

def dec (n : Nat) : List UInt8 := if n < 10 then [UInt8.ofNat (48 + n)] else dec (n / 10) ++ [UInt8.ofNat (48 + n % 10)]
termination_by n
decreasing_by omega
theorem dec_small (n : Nat) (h : n < 10) : dec n = [UInt8.ofNat (48 + n)] := by rw [dec, if_pos h]
theorem dec_big (n : Nat) (h : ¬ n < 10) : dec n = dec (n / 10) ++ [UInt8.ofNat (48 + n % 10)] := by rw [dec, if_neg h]
theorem val_snoc : ∀ (p : List UInt8) (v : Int) (b : UInt8), val v (p ++ [b]) = 10 * val v p + ((b.toNat : Int) - 48)
  | [], v, b => rfl
  | c :: p, v, b => val_snoc p _ b
theorem chr (d : Nat) (h : d < 10) : (UInt8.ofNat (48 + d)).toNat = 48 + d := by rw [UInt8.toNat_ofNat']; omega
theorem chr_dig (d : Nat) (h : d < 10) : dig (UInt8.ofNat (48 + d)) = true := by unfold dig; rw [chr d h]; simp; omega
theorem dec_facts (n : Nat) : (dec n).all dig = true ∧ val 0 (dec n) = (n : Int) ∧ dec n ≠ [] ∧ (0 < n → (dec n).head? ≠ some 48) := by
  induction n using Nat.strongRecOn with
  | ind n ih =>
    by_cases h : n < 10
    · rw [dec_small n h]
      refine ⟨by simp only [List.all_cons, List.all_nil, Bool.and_true]; exact chr_dig n h, ?_, by simp, ?_⟩
      · show 10 * 0 + (((UInt8.ofNat (48 + n)).toNat : Int) - 48) = _
        rw [chr n h]; omega
      · intro hp e
        simp only [List.head?_cons, Option.some.injEq] at e
        have := congrArg UInt8.toNat e
        rw [chr n h] at this
        have e48 : (48 : UInt8).toNat = 48 := rfl
        omega
    · obtain ⟨h1, h2, h3, h4⟩ := ih (n / 10) (by omega)
      rw [dec_big n h]
      refine ⟨by rw [List.all_append, h1, Bool.true_and]; simp only [List.all_cons, List.all_nil, Bool.and_true]; exact chr_dig _ (by omega), ?_, by simp, ?_⟩
      · rw [val_snoc, h2, chr _ (by omega)]; omega
      · intro _
        cases hd : dec (n / 10) with
        | nil => exact absurd hd h3
        | cons x xs =>
          have := h4 (by omega)
          rw [hd] at this
          exact this
theorem dec_len : ∀ (k n : Nat), n < 10 ^ (k + 1) → (dec n).length ≤ k + 1
  | 0, n, h => by rw [dec_small n (by omega)]; simp
  | k + 1, n, h => by
    by_cases h9 : n < 10
    · rw [dec_small n h9]; simp
    · rw [dec_big n h9, List.length_append]
      have := dec_len k (n / 10) (by rw [Nat.pow_succ] at h; generalize 10 ^ (k + 1) = P at *; omega)
      simp; omega
theorem dec_ok (n : Nat) (h : n ≤ 2147483647) : okP (dec n) = true := by
  obtain ⟨h1, h2, h3, h4⟩ := dec_facts n
  have hl := dec_len 9 n (by have : (10 : Nat) ^ (9 + 1) = 10000000000 := by decide
                             omega)
  unfold okP
  rw [h1, h2, decide_eq_true h3, decide_eq_true (show (dec n).length ≤ 10 by omega), decide_eq_true (show ((n : Nat) : Int) ≤ 2147483647 by omega)]
  have : (decide (1 < (dec n).length) && decide ((dec n).head? = some 48)) = false := by
    by_cases h0 : 0 < n
    · rw [decide_eq_false (h4 h0), Bool.and_false]
    · obtain rfl : n = 0 := by omega
      rw [dec_small 0 (by decide)]; rfl
  rw [this]; rfl
theorem one_digit (d : Nat) (h : d < 10) (v : Int) (hv : v = (d : Int)) : strOfNums [(wrap64 (48 + v)) % 256] = ba [UInt8.ofNat (48 + d)] := by
  subst hv
  rw [w64 _ (by omega) (by omega)]
  have : d = 0 ∨ d = 1 ∨ d = 2 ∨ d = 3 ∨ d = 4 ∨ d = 5 ∨ d = 6 ∨ d = 7 ∨ d = 8 ∨ d = 9 := by omega
  rcases this with rfl | rfl | rfl | rfl | rfl | rfl | rfl | rfl | rfl | rfl <;> rfl
theorem dec_f (n : Nat) (hn : n < 10000000000) : Ev (fun k => certpathref01_Dec.f k (n : Int)) (ba (dec n)) := by
  induction n using Nat.strongRecOn with
  | ind n ih =>
    by_cases h : n < 10
    · refine Ev.step (f := fun _ => some _) (fun k => ?_) (Ev.now _)
      simp only [certpathref01_Dec.f]
      rw [if_pos (by omega), one_digit n h n rfl, dec_small n h]
    · have e : Int.tdiv (n : Int) 10 = ((n / 10 : Nat) : Int) := by rw [Int.tdiv_eq_ediv_of_nonneg (by omega)]; rfl
      have e2 : Int.tmod (n : Int) 10 = ((n % 10 : Nat) : Int) := by rw [Int.tmod_eq_emod_of_nonneg (by omega)]; rfl
      refine Ev.step (fun k => by simp only [certpathref01_Dec.f]; rw [if_neg (by omega), e, w64 _ (by omega) (by omega)]) ?_
      refine Ev.bind (ih (n / 10) (by omega) (by omega)) ?_
      refine Ev.congr (f := fun _ => some _) (fun k => ?_) (Ev.now _)
      have hl := dec_len 9 (n / 10) (by have : (10 : Nat) ^ (9 + 1) = 10000000000 := by decide
                                        omega)
      rw [Option.bind_some, one_digit (n % 10) (by omega) _ e2, size_ba, size_ba, if_pos (by simp; omega), dec_big n h]
      have e5 : ba (dec (n / 10)) ++ ba [UInt8.ofNat (48 + n % 10)] = ba (dec (n / 10) ++ [UInt8.ofNat (48 + n % 10)]) := ext_L (by rw [L_append, L_ba, L_ba, L_ba])
      rw [e5]
/-! ### Texts of arcs -/
def tex : List Nat → List UInt8
  | [] => []
  | [v] => dec v
  | v :: w :: r => dec v ++ 46 :: tex (w :: r)
theorem spl_tex : ∀ vs : List Nat, vs ≠ [] → spl 46 (tex vs) = vs.map dec
  | [], h => absurd rfl h
  | [v], _ => by
    show spl 46 (dec v) = _
    rw [spl_miss 46 _ (dig_no46 _ (dec_facts v).1)]; rfl
  | v :: w :: r, _ => by
    show spl 46 (dec v ++ 46 :: tex (w :: r)) = _
    rw [spl_hit 46 _ _ (dig_no46 _ (dec_facts v).1), spl_tex (w :: r) (by simp)]; rfl
theorem tex_snoc (w : Nat) : ∀ vs : List Nat, vs ≠ [] → tex (vs ++ [w]) = tex vs ++ 46 :: dec w
  | [], h => absurd rfl h
  | [v], _ => rfl
  | v :: u :: r, _ => by
    have ih := tex_snoc w (u :: r) (by simp)
    show dec v ++ 46 :: tex ((u :: r) ++ [w]) = (dec v ++ 46 :: tex (u :: r)) ++ 46 :: dec w
    rw [ih]; simp
theorem arcs_tex (vs : List Nat) (h2 : 2 ≤ vs.length) (h12 : vs.length ≤ 12) (hv : ∀ v ∈ vs, v ≤ 2147483647) (hr : rootB (rd (vs.map (fun v : Nat => (v : Int))) 0) (rd (vs.map (fun v : Nat => (v : Int))) 1) = true) : arcsS (ba (tex vs)) = some (vs.map (fun v : Nat => (v : Int))) := by
  have hne : vs ≠ [] := by intro e; rw [e] at h2; simp at h2
  have e : (vs.map dec).map (val 0) = vs.map (fun v : Nat => (v : Int)) := by
    rw [List.map_map]
    exact List.map_congr_left fun v _ => (dec_facts v).2.1
  unfold arcsS
  rw [L_ba, spl_tex vs hne, e, List.length_map, if_pos]
  refine ⟨h2, h12, ?_, hr⟩
  rw [List.all_eq_true]
  intro p hp
  obtain ⟨v, hm, rfl⟩ := List.mem_map.1 hp
  exact dec_ok v (hv v hm)
/-! ### The laws' identifiers -/
def fI (x : Int) : Int := bits .and .i64 (wrap64 (shr .u32 x (Int.tmod x 32))) 2147483647
theorem fI_range (x : Int) : 0 ≤ fI x ∧ fI x ≤ 2147483647 := by
  unfold fI
  generalize wrap64 (shr .u32 x (Int.tmod x 32)) = y
  have e : bits .and .i64 y 2147483647 = IntKind.i64.wrap ((BitVec.ofInt 64 y &&& BitVec.ofInt 64 2147483647).toNat : Int) := rfl
  rw [e, i64w, BitVec.toNat_and]
  have e2 : (BitVec.ofInt 64 2147483647).toNat = 2 ^ 31 - 1 := by decide
  rw [e2, Nat.and_two_pow_sub_one_eq_mod]
  have : (BitVec.ofInt 64 y).toNat % 2 ^ 31 < 2 ^ 31 := Nat.mod_lt _ (by decide)
  have e3 : (2 : Nat) ^ 31 = 2147483648 := by decide
  rw [e3] at this ⊢
  rw [w64 _ (by omega) (by omega)]
  omega
def fN (x : Int) : Nat := (fI x).toNat
def headV (l : List Int) : List Nat := match l with
  | [] => [2, 999]
  | x :: _ => [(x % 3).toNat, (x / 3 % 40).toNat]
def idV (l : List Int) : List Nat := headV l ++ ((l.drop 1).take 7).map fN
theorem id_loop (l : List Int) (hl : l.length ≤ 140737488351232) (hw : ∀ x ∈ l, 0 ≤ x ∧ x ≤ 4294967295) : ∀ (d i : Nat) (vs : List Nat), i + d = 8 → vs ≠ [] → (tex vs).length ≤ 100 * (i + 1) →
    Ev (fun k => certpathlaw04_id.l0 k l (ba (tex vs)) i) (ba (tex (vs ++ ((l.drop i).take d).map fN)))
  | 0, i, vs, hi, hne, hs => by
    refine Ev.step (f := fun _ => some _) (fun k => ?_) (Ev.now _)
    simp only [certpathlaw04_id.l0]
    rw [List.take_zero, List.map_nil, List.append_nil]
    by_cases h : (i : Int) < l.length
    · rw [if_pos h, if_neg (by omega)]
    · rw [if_neg h]
  | d + 1, i, vs, hi, hne, hs => by
    by_cases h : i < l.length
    · have hx := hw _ (rd_mem l i h)
      have hr := drop_rd l i h
      have hf := fI_range (rd l i)
      have e : ((fN (rd l i) : Nat) : Int) = fI (rd l i) := by unfold fN; omega
      have ih := id_loop l hl hw d (i + 1) (vs ++ [fN (rd l i)]) (by omega) (by simp) (by
        rw [tex_snoc _ _ hne, List.length_append, List.length_cons]
        have := dec_len 9 (fN (rd l i)) (by have : (10 : Nat) ^ (9 + 1) = 10000000000 := by decide
                                            omega)
        omega)
      rw [hr, List.take_succ_cons, List.map_cons]
      rw [List.append_assoc, List.singleton_append] at ih
      have ht : Int.tmod (rd l i) 32 = rd l i % 32 := Int.tmod_eq_emod_of_nonneg hx.1
      refine Ev.step (fun k => by
        simp only [certpathlaw04_id.l0]
        rw [if_pos (by omega), if_pos (by omega), if_pos (by omega), if_pos (by rw [ht]; omega)]) ?_
      have hD := dec_f (fN (rd l i)) (by omega)
      rw [e] at hD
      refine Ev.bind hD ?_
      have hdl := dec_len 9 (fN (rd l i)) (by have : (10 : Nat) ^ (9 + 1) = 10000000000 := by decide
                                              omega)
      have e3 : (⟨#[46]⟩ : ByteArray) ++ ba (dec (fN (rd l i))) = ba (46 :: dec (fN (rd l i))) := ext_L (by rw [L_append, L_ba, L_ba]; rfl)
      have e4 : ba (tex vs) ++ ba (46 :: dec (fN (rd l i))) = ba (tex (vs ++ [fN (rd l i)])) := ext_L (by rw [L_append, L_ba, L_ba, L_ba, tex_snoc _ _ hne])
      refine Ev.congr (fun k => ?_) ih
      rw [size_ba, if_pos (by omega), e3, size_ba, size_ba, if_pos (by simp only [List.length_cons]; omega), w64 _ (by omega) (by omega), e4]
      rfl
    · refine Ev.step (f := fun _ => some _) (fun k => ?_) (Ev.now _)
      simp only [certpathlaw04_id.l0]
      rw [if_neg (by omega), List.drop_eq_nil_of_le (by omega), List.take_nil, List.map_nil, List.append_nil]
theorem id_start (l : List Int) (hl : l.length ≤ 140737488351232) (hw : ∀ x ∈ l, 0 ≤ x ∧ x ≤ 4294967295) (a b : Nat) (ha : a ≤ 1000) (hb : b ≤ 1000) : Ev (fun k => certpathlaw04_id.j0 k l (a : Int) (b : Int)) (ba (tex ([a, b] ++ ((l.drop 1).take 7).map fN))) := by
  have la := dec_len 3 a (by have : (10 : Nat) ^ (3 + 1) = 10000 := by decide
                             omega)
  have lb := dec_len 3 b (by have : (10 : Nat) ^ (3 + 1) = 10000 := by decide
                             omega)
  have e1 : ba (dec a) ++ (⟨#[46]⟩ : ByteArray) = ba (dec a ++ [46]) := ext_L (by rw [L_append, L_ba, L_ba])
  have e2 : ba (dec a ++ [46]) ++ ba (dec b) = ba (tex [a, b]) := ext_L (by simp only [L_append, L_ba, tex, List.append_assoc, List.singleton_append])
  refine Ev.step (fun k => by simp only [certpathlaw04_id.j0]; rfl) ?_
  refine Ev.bind (dec_f a (by omega)) ?_
  refine Ev.congr (fun k => by rw [size_ba, if_pos (by omega)]) ?_
  refine Ev.bind (dec_f b (by omega)) ?_
  refine Ev.congr (fun k => ?_) (id_loop l hl hw 7 1 [a, b] (by omega) (by simp) (by simp only [tex, List.length_append, List.length_cons]; omega))
  rw [e1, size_ba, size_ba, if_pos (by simp; omega), e2]
  rfl
theorem id_f (l : List Int) (hl : l.length ≤ 140737488351232) (hw : ∀ x ∈ l, 0 ≤ x ∧ x ≤ 4294967295) : Ev (fun k => certpathlaw04_id.f k l) (ba (tex (idV l))) := by
  cases l with
  | nil =>
    refine Ev.congr (fun k => by unfold certpathlaw04_id.f; rw [if_neg (by simp)]) ?_
    exact id_start [] hl hw 2 999 (by omega) (by omega)
  | cons x r =>
    have hx := hw x (by simp)
    have e0 : rd (x :: r) 0 = x := rfl
    have e1 : Int.tmod x 3 = ((x % 3).toNat : Int) := by rw [Int.tmod_eq_emod_of_nonneg hx.1]; omega
    have h3 : x / 3 % 4294967296 = x / 3 := Int.emod_eq_of_lt (by omega) (by omega)
    have e2 : Int.tdiv x 3 % 4294967296 % 40 = ((x / 3 % 40).toNat : Int) := by
      rw [Int.tdiv_eq_ediv_of_nonneg hx.1, h3]; omega
    refine Ev.congr (fun k => by
      unfold certpathlaw04_id.f
      rw [if_pos (by simp only [List.length_cons]; omega), if_pos (by simp only [List.length_cons]; omega), e0, e1, e2, w64 _ (by omega) (by omega)]) ?_
    exact id_start (x :: r) hl hw _ _ (by omega) (by omega)
theorem idV_facts (l : List Int) (hw : ∀ x ∈ l, 0 ≤ x ∧ x ≤ 4294967295) : 2 ≤ (idV l).length ∧ (idV l).length ≤ 12 ∧ (∀ v ∈ idV l, v ≤ 2147483647) ∧ rootB (rd ((idV l).map (fun v : Nat => (v : Int))) 0) (rd ((idV l).map (fun v : Nat => (v : Int))) 1) = true := by
  have hh : ∃ a b, headV l = [a, b] ∧ a ≤ 2 ∧ b ≤ 999 ∧ rootB (a : Int) (b : Int) = true := by
    cases l with
    | nil => exact ⟨2, 999, rfl, by omega, by omega, by decide⟩
    | cons x r =>
      have hx := hw x (by simp)
      refine ⟨_, _, rfl, by omega, by omega, ?_⟩
      unfold rootB
      simp only [Bool.or_eq_true, Bool.and_eq_true, decide_eq_true_eq]
      omega
  obtain ⟨a, b, e, ha, hb, hr⟩ := hh
  have hl : (((l.drop 1).take 7).map fN).length ≤ 7 := by rw [List.length_map, List.length_take]; omega
  unfold idV
  rw [e]
  refine ⟨by simp, by rw [List.length_append]; simp only [List.length_cons, List.length_nil]; omega, ?_, hr⟩
  intro v hv
  rcases List.mem_append.1 hv with h | h
  · simp only [List.mem_cons, List.not_mem_nil, or_false] at h
    omega
  · obtain ⟨x, _, rfl⟩ := List.mem_map.1 h
    have := fI_range x
    unfold fN; omega
theorem id_arcs (l : List Int) (hw : ∀ x ∈ l, 0 ≤ x ∧ x ≤ 4294967295) : arcsS (ba (tex (idV l))) = some ((idV l).map (fun v : Nat => (v : Int))) := by
  obtain ⟨h2, h12, hv, hr⟩ := idV_facts l hw
  exact arcs_tex _ h2 h12 hv hr
theorem tex_len : ∀ vs : List Nat, (∀ v ∈ vs, v ≤ 2147483647) → (tex vs).length ≤ 11 * vs.length
  | [], _ => by simp [tex]
  | [v], h => by
    have := dec_len 9 v (by have := h v (by simp)
                            have : (10 : Nat) ^ (9 + 1) = 10000000000 := by decide
                            omega)
    simp [tex]; omega
  | v :: w :: r, h => by
    have ih := tex_len (w :: r) (fun x hx => h x (by simp only [List.mem_cons] at hx ⊢; exact Or.inr hx))
    have := dec_len 9 v (by have := h v (by simp)
                            have : (10 : Nat) ^ (9 + 1) = 10000000000 := by decide
                            omega)
    simp only [tex, List.length_append, List.length_cons] at ih ⊢
    omega
theorem id_size (l : List Int) (hw : ∀ x ∈ l, 0 ≤ x ∧ x ≤ 4294967295) : (ba (tex (idV l))).size ≤ 200 := by
  obtain ⟨h2, h12, hv, hr⟩ := idV_facts l hw
  have := tex_len _ hv
  rw [size_ba]; omega

end Go.Proofs.YtcmmlemajlhjoaaDoor.Oid
