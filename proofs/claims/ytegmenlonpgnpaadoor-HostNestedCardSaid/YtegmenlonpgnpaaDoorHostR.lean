/- The host functions of the program and of the document's definition, each as a plain function of strings. -/
import Derived.Test.YtegmenlonpgnpaaDoorRx1
import Derived.Test.YtegmenlonpgnpaaDoorRx2
import Derived.Test.YtegmenlonpgnpaaDoorRx3
import Derived.Test.YtegmenlonpgnpaaDoorStr
import Derived.KernelRfl
set_option linter.unusedVariables false
set_option linter.unusedSimpArgs false
namespace Go.Proofs.YtegmenlonpgnpaaDoor.Host
open Go Go.RowKit Go.Proofs.YtegmenlonpgnpaaDoor.Q Go.Proofs.YtegmenlonpgnpaaDoorW.PrintWords Go.Proofs.YtegmenlonpgnpaaDoorW.PrintLast Go.Proofs.YtegmenlonpgnpaaDoorW.PrintMore Go.Proofs.YtegmenlonpgnpaaDoor.Num Go.Proofs.YtegmenlonpgnpaaDoor.Str

/-! ### Names -/
def labU (l : List UInt8) : Bool := Hand.labelB (ba l)
def dnsS (s : ByteArray) : Bool := decide (s.size ≤ 128) && (spl 46 (L s)).all labU
theorem rdOf_map (l : List (List UInt8)) (i : Nat) (h : i < l.length) : rdOf ByteArray.empty (l.map ba) (i : Int) = ba l[i] := by
  unfold rdOf
  rw [Int.toNat_natCast, List.getD_eq_getElem?_getD, List.getElem?_eq_getElem (by rw [List.length_map]; exact h), Option.getD_some, List.getElem_map]
theorem spl_len (c : UInt8) : ∀ l : List UInt8, (spl c l).length ≤ l.length + 1 ∧ ∀ p ∈ spl c l, p.length ≤ l.length
  | [] => by simp [spl]
  | x :: xs => by
    have ih := spl_len c xs
    rw [spl_cons]
    split
    · refine ⟨by simp; exact ih.1, fun p hp => ?_⟩
      simp only [List.mem_cons] at hp
      rcases hp with rfl | hp
      · simp
      · have := ih.2 p hp; simp; omega
    · split
      · simp
      · rename_i p ps e
        rw [e] at ih
        refine ⟨by have := ih.1; simp at this ⊢; omega, fun q hq => ?_⟩
        simp only [List.mem_cons] at hq
        rcases hq with rfl | hq
        · have := ih.2 p (by simp); simp; omega
        · have := ih.2 q (by simp [hq]); simp; omega
theorem split_f (s : ByteArray) (hs : s.size ≤ 4000000000) (c : UInt8) : Hand.strings_Split.f s ⟨#[c]⟩ = some ((spl c (L s)).map ba) := by
  unfold Hand.strings_Split.f
  rw [if_pos (by omega), if_pos (show 1 ≤ (⟨#[c]⟩ : ByteArray).size from Nat.le_refl 1), splitB_spl]
theorem dns_loop (xs : List (List UInt8)) (hx : ∀ p ∈ xs, p.length ≤ 1000) (hl : xs.length ≤ 1000) : ∀ (d i : Nat), i + d = xs.length →
    Ev (fun k => host_DNS.l0 k (xs.map ba) (xs.length : Int) i) ((xs.drop i).all labU)
  | 0, i, hd => by
    rw [List.drop_of_length_le (by omega)]
    exact Ev.step (f := fun _ => some true) (fun k => by simp only [host_DNS.l0]; rw [if_neg (by omega)]) (Ev.now _)
  | d + 1, i, hd => by
    have hi : i < xs.length := by omega
    have hp := hx _ (List.getElem_mem hi)
    have hlb : Hand.host_label.f (ba xs[i]) = some (labU xs[i]) := by unfold Hand.host_label.f; rw [if_pos (by rw [size_ba]; omega)]; rfl
    have hst : ∀ k, host_DNS.l0 (k + 1) (xs.map ba) (xs.length : Int) i = if labU xs[i] = true then host_DNS.l0 k (xs.map ba) (xs.length : Int) ((i + 1 : Nat) : Int) else some false := by
      intro k
      simp only [host_DNS.l0]
      rw [if_pos (by omega), if_pos (by omega), if_pos (by rw [List.length_map]; omega), rdOf_map _ _ hi, hlb, Option.bind_some, w64 _ (by omega) (by omega)]; rfl
    rw [List.drop_eq_getElem_cons hi, List.all_cons]
    by_cases c : labU xs[i] = true
    · rw [c, Bool.true_and]
      exact Ev.step (fun k => by rw [hst, if_pos c]) (dns_loop xs hx hl d (i + 1) (by omega))
    · rw [Bool.eq_false_iff.2 c, Bool.false_and]
      exact Ev.step (f := fun _ => some false) (fun k => by rw [hst, if_neg c]) (Ev.now _)
theorem dns_p (s : ByteArray) : Ev (fun k => host_DNS.f k s) (dnsS s) := by
  unfold dnsS
  by_cases h : (s.size : Int) > 128
  · rw [decide_eq_false (by omega), Bool.false_and]
    exact Ev.congr (f := fun _ => some false) (fun k => by unfold host_DNS.f; rw [if_pos h]) (Ev.now _)
  · rw [decide_eq_true (by omega), Bool.true_and]
    have hsp := spl_len 46 (L s)
    rw [← size_L] at hsp
    refine Ev.congr (fun k => by unfold host_DNS.f; rw [if_neg h, split_f s (by omega), Option.bind_some, List.length_map]) ?_
    have := dns_loop (spl 46 (L s)) (fun p hp => by have := hsp.2 p hp; omega) (by omega) (spl 46 (L s)).length 0 (by omega)
    simpa using this

/-! ### The definition's names -/
/-! ### What a name is made of -/
theorem lab_ne (l : List UInt8) (h : labU l = true) : l ≠ [] := by
  intro e
  subst e
  revert h
  decide
theorem dns_ne (s : ByteArray) (h : dnsS s = true) : L s ≠ [] := by
  intro e
  unfold dnsS at h
  rw [e] at h
  simp only [Bool.and_eq_true, spl, List.all_cons, List.all_nil, Bool.and_true] at h
  exact lab_ne [] h.2 rfl
theorem dns_point (s : ByteArray) (b : List UInt8) (h : L s = 46 :: b) : dnsS s = false := by
  unfold dnsS
  rw [h, spl_cons, if_pos rfl, List.all_cons]
  have : labU [] = false := by decide
  rw [this]; simp
theorem dns_star (s : ByteArray) (b : List UInt8) (h : L s = 42 :: 46 :: b) : dnsS s = false := by
  unfold dnsS
  have e : spl 46 (42 :: 46 :: b) = [42] :: spl 46 b := spl_hit 46 b [42] (by decide)
  rw [h, e, List.all_cons]
  have : labU [42] = false := by decide
  rw [this]; simp

/-! ### Cutting -/
theorem hasPrefix_f (s p : ByteArray) (hs : s.size ≤ 100000) : stringslite_HasPrefix.f s p = some ((L p).isPrefixOf (L s)) := by
  have h := Lib.hasPrefix_raw s p
  unfold stringslite_HasPrefix.f
  unfold Lib.hasPrefix at h
  by_cases hl : p.size ≤ s.size
  · rw [if_pos (by omega), if_pos (by omega), if_pos (by omega), Int.toNat_natCast]
    rw [decide_eq_true hl, Bool.true_and] at h
    rw [h]
  · rw [if_neg (by omega)]
    rw [decide_eq_false hl, Bool.false_and] at h
    rw [← h]
theorem cutPrefix_f (s p : ByteArray) (hs : s.size ≤ 100000) : strings_CutPrefix.f s p = some (if (L p).isPrefixOf (L s) = true then (ba ((L s).drop p.size), true) else (s, false)) := by
  unfold strings_CutPrefix.f stringslite_CutPrefix.f
  rw [hasPrefix_f s p hs, Option.bind_some]
  by_cases h : (L p).isPrefixOf (L s) = true
  · have hle : p.size ≤ s.size := by
      have := List.isPrefixOf_iff_prefix.1 h
      have := this.length_le
      rw [← size_L, ← size_L] at this; exact this
    rw [if_pos h, if_pos (by omega), if_pos (by omega), Option.bind_some, if_pos h, Int.toNat_natCast]
    have e : s.extract p.size s.size = ba ((L s).drop p.size) := ext_L (by rw [L_from, L_ba])
    rw [e]
  · rw [if_neg h, if_neg h, Option.bind_some]
theorem trimPrefix_f (s p : ByteArray) (hs : s.size ≤ 100000) : strings_TrimPrefix.f s p = some (if (L p).isPrefixOf (L s) = true then ba ((L s).drop p.size) else s) := by
  unfold strings_TrimPrefix.f stringslite_TrimPrefix.f
  rw [hasPrefix_f s p hs, Option.bind_some]
  by_cases h : (L p).isPrefixOf (L s) = true
  · have hle : p.size ≤ s.size := by
      have := List.isPrefixOf_iff_prefix.1 h
      have := this.length_le
      rw [← size_L, ← size_L] at this; exact this
    rw [if_pos h, if_pos (by omega), if_pos (by omega), Option.bind_some, if_pos h, Int.toNat_natCast]
    have e : s.extract p.size s.size = ba ((L s).drop p.size) := ext_L (by rw [L_from, L_ba])
    rw [e]
  · rw [if_neg h, if_neg h, Option.bind_some]
theorem idx_f (s : ByteArray) (hs : s.size ≤ 100000) (c : UInt8) : Hand.stringslite_Index.f s ⟨#[c]⟩ = some (Lib.index (L s) [c]) := by
  unfold Hand.stringslite_Index.f; rw [if_pos (by omega)]
theorem cut_miss (s : ByteArray) (hs : s.size ≤ 100000) (c : UInt8) (h : c ∉ L s) : strings_Cut.f s ⟨#[c]⟩ = some (s, ⟨#[]⟩, false) := by
  unfold strings_Cut.f stringslite_Cut.f
  rw [idx_f s hs, index_miss c _ h, Option.bind_some, if_neg (by decide)]; rfl
theorem cut_hit (s : ByteArray) (hs : s.size ≤ 100000) (c : UInt8) (a b : List UInt8) (he : L s = a ++ c :: b) (h : c ∉ a) : strings_Cut.f s ⟨#[c]⟩ = some (ba a, ba b, true) := by
  have hl : s.size = a.length + 1 + b.length := by rw [size_L, he]; simp; omega
  have h1 : (((⟨#[c]⟩ : ByteArray)).size : Int) = 1 := rfl
  unfold strings_Cut.f stringslite_Cut.f
  rw [idx_f s hs, he, index_hit c b a h, Option.bind_some, if_pos (by omega), if_pos (by omega), if_pos (by omega), h1, w64 _ (by omega) (by omega), if_pos (by omega), if_pos (by omega), Option.bind_some]
  have e1 : s.extract 0 ((a.length : Int)).toNat = ba a := ext_L (by rw [L_upto, he, Int.toNat_natCast, L_ba, List.take_left' rfl])
  have e2 : s.extract ((a.length : Int) + 1).toNat s.size = ba b := ext_L (by
    have : ((a.length : Int) + 1).toNat = a.length + 1 := by omega
    rw [L_from, he, this, L_ba, show a ++ c :: b = (a ++ [c]) ++ b by simp, List.drop_left' (by simp)])
  rw [e1, e2]
theorem contains_f (s : ByteArray) (hs : s.size ≤ 100000) (c : UInt8) : strings_Contains.f s ⟨#[c]⟩ = some (decide (c ∈ L s)) := by
  have := contains_one c (L s)
  unfold Lib.contains at this
  unfold strings_Contains.f strings_Index.f
  rw [idx_f s hs, Option.bind_some, Option.bind_some]
  rw [← this]

/-! ### Patterns -/
def patS (s : ByteArray) : Bool := if ([42, 46] : List UInt8).isPrefixOf (L s) = true then decide (s.size ≤ 128) && (dnsS (ba ((L s).drop 2)) && decide ((46 : UInt8) ∈ (L s).drop 2)) else dnsS s
theorem pat_p (s : ByteArray) (hs : s.size ≤ 100000) : Ev (fun k => host_Pattern.f k s) (patS s) := by
  unfold patS
  have hc := cutPrefix_f s ⟨#[42, 46]⟩ hs
  by_cases h : ([42, 46] : List UInt8).isPrefixOf (L s) = true
  · rw [if_pos (show (L ⟨#[42, 46]⟩).isPrefixOf (L s) = true from h)] at hc
    rw [if_pos h]
    have hd : (ba ((L s).drop 2)).size ≤ 100000 := by rw [size_ba, List.length_drop, ← size_L]; omega
    by_cases h8 : s.size ≤ 128
    · rw [decide_eq_true h8, Bool.true_and]
      refine Ev.congr (f := fun k => (host_DNS.f k (ba ((L s).drop 2))).bind fun t153 => if t153 = true then (strings_Contains.f (ba ((L s).drop 2)) ⟨#[46]⟩).bind fun t154 => some t154 else some false) (fun k => by unfold host_Pattern.f; rw [hc, Option.bind_some, if_pos rfl, if_pos (by omega)]; rfl) ?_
      refine Ev.bind (dns_p _) ?_
      by_cases d : dnsS (ba ((L s).drop 2)) = true
      · refine Ev.congr (f := fun _ => some (dnsS (ba ((L s).drop 2)) && decide ((46 : UInt8) ∈ (L s).drop 2))) (fun k => ?_) (Ev.now _)
        rw [if_pos d, contains_f _ hd, L_ba, d]; rfl
      · refine Ev.congr (f := fun _ => some (dnsS (ba ((L s).drop 2)) && decide ((46 : UInt8) ∈ (L s).drop 2))) (fun k => ?_) (Ev.now _)
        rw [if_neg d, Bool.eq_false_iff.2 d]; rfl
    · rw [decide_eq_false h8, Bool.false_and]
      exact Ev.congr (f := fun _ => some false) (fun k => by unfold host_Pattern.f; rw [hc, Option.bind_some, if_pos rfl, if_neg (by omega)]) (Ev.now _)
  · rw [if_neg (show ¬ (L ⟨#[42, 46]⟩).isPrefixOf (L s) = true from h)] at hc
    rw [if_neg h]
    refine Ev.congr (fun k => by unfold host_Pattern.f; rw [hc, Option.bind_some, if_neg (show ¬ ((s, false).2 = true) from Bool.false_ne_true)]) ?_
    exact Ev.bind (dns_p s) (Ev.now _)
theorem pre_star (l : List UInt8) : ([42, 46] : List UInt8).isPrefixOf l = true ↔ ∃ b, l = 42 :: 46 :: b := by
  rw [List.isPrefixOf_iff_prefix]
  constructor
  · rintro ⟨t, rfl⟩; exact ⟨t, rfl⟩
  · rintro ⟨t, rfl⟩; exact ⟨t, rfl⟩
theorem spl_many (c : UInt8) (b : List UInt8) : 2 ≤ (spl c b).length ↔ c ∈ b := by
  rcases first_of c b with h | ⟨x, y, rfl, h⟩
  · rw [spl_miss c b h]; simp [h]
  · rw [spl_hit c y x h]
    have := List.length_pos_iff.2 (spl_ne c y)
    simp; omega
def baseS (s : ByteArray) : Bool := decide (L s = []) || dnsS s
theorem base_p (s : ByteArray) : Ev (fun k => host_Base.f k s) (baseS s) := by
  unfold baseS
  by_cases h : s.toList = []
  · have h' := h; rw [toList_L] at h'
    rw [decide_eq_true h', Bool.true_or]
    exact Ev.congr (f := fun _ => some true) (fun k => by unfold host_Base.f; rw [if_pos h]) (Ev.now _)
  · have h' := h; rw [toList_L] at h'
    rw [decide_eq_false h', Bool.false_or]
    refine Ev.congr (fun k => by unfold host_Base.f; rw [if_neg h]) ?_
    exact Ev.bind (dns_p s) (Ev.now _)
/-! ### Mail addresses -/
def cutL (c : UInt8) : List UInt8 → Option (List UInt8 × List UInt8)
  | [] => none
  | x :: xs => if x = c then some ([], xs) else (cutL c xs).map fun p => (x :: p.1, p.2)
theorem cutL_miss (c : UInt8) : ∀ l : List UInt8, c ∉ l → cutL c l = none
  | [], _ => rfl
  | x :: xs, h => by
    simp only [List.mem_cons, not_or] at h
    show (if x = c then _ else _) = _
    rw [if_neg (fun e => h.1 e.symm), cutL_miss c xs h.2]; rfl
theorem cutL_hit (c : UInt8) (b : List UInt8) : ∀ a : List UInt8, c ∉ a → cutL c (a ++ c :: b) = some (a, b)
  | [], _ => by show (if c = c then _ else _) = _; rw [if_pos rfl]
  | x :: xs, h => by
    simp only [List.mem_cons, not_or] at h
    show (if x = c then _ else _) = _
    rw [if_neg (fun e => h.1 e.symm)]
    show (cutL c (xs ++ c :: b)).map _ = _
    rw [cutL_hit c b xs h.2]; rfl
def locU (l : List UInt8) : Bool := Hand.localB (ba l)
def partsS (s : ByteArray) : Option (List UInt8 × List UInt8) :=
  if s.size ≤ 128 then (cutL 64 (L s)).bind fun p => if locU p.1 && dnsS (ba p.2) then some p else none else none
def mailS (s : ByteArray) : Bool := (partsS s).isSome
theorem local_f (l : List UInt8) (h : l.length ≤ 100000) : Hand.host_local.f (ba l) = some (locU l) := by
  unfold Hand.host_local.f; rw [if_pos (by rw [size_ba]; omega)]; rfl
theorem mail_p (s : ByteArray) (hs : s.size ≤ 100000) : Ev (fun k => host_Mail.f k s) (mailS s) := by
  unfold mailS partsS
  rcases first_of 64 (L s) with h | ⟨a, b, he, h⟩
  · rw [cutL_miss 64 _ h]
    have e : (if s.size ≤ 128 then (none : Option (List UInt8 × List UInt8)).bind fun p => if locU p.1 && dnsS (ba p.2) then some p else none else none).isSome = false := by split <;> rfl
    rw [e]
    exact Ev.congr (f := fun _ => some false) (fun k => by unfold host_Mail.f; rw [cut_miss s hs 64 h, Option.bind_some]; rfl) (Ev.now _)
  · have hl : s.size = a.length + 1 + b.length := by rw [size_L, he]; simp; omega
    have hc : cutL 64 (L s) = some (a, b) := by rw [he]; exact cutL_hit 64 b a h
    rw [hc]
    by_cases h8 : s.size ≤ 128
    · rw [if_pos h8, Option.bind_some]
      refine Ev.congr (f := fun k => (Hand.host_local.f (ba a)).bind fun t113 => if t113 = true then (host_DNS.f k (ba b)).bind fun t114 => some t114 else some false) (fun k => by unfold host_Mail.f; rw [cut_hit s hs 64 a b he h, Option.bind_some, if_pos rfl, if_pos (by omega)]) ?_
      refine Ev.congr (fun k => by rw [local_f a (by omega), Option.bind_some]) ?_
      by_cases c : locU a = true
      · refine Ev.congr (fun k => by rw [if_pos c]) ?_
        have : (if (locU a && dnsS (ba b)) = true then some (a, b) else none).isSome = dnsS (ba b) := by rw [c, Bool.true_and]; split <;> simp_all
        rw [this]
        exact Ev.bind (dns_p _) (Ev.now _)
      · have : (if (locU a && dnsS (ba b)) = true then some (a, b) else none).isSome = false := by rw [Bool.eq_false_iff.2 c, Bool.false_and]; rfl
        rw [this]
        exact Ev.congr (f := fun _ => some false) (fun k => by rw [if_neg c]) (Ev.now _)
    · rw [if_neg h8]
      exact Ev.congr (f := fun _ => some false) (fun k => by unfold host_Mail.f; rw [cut_hit s hs 64 a b he h, Option.bind_some, if_pos rfl, if_neg (by omega)]) (Ev.now _)
theorem dd_cons (x : UInt8) (l : List UInt8) : dd 46 (x :: l) = ((x == 46 && (l.head? == some 46)) || dd 46 l) := by
  cases l with
  | nil => simp [dd]
  | cons y r => simp [dd]
/-- The loop over the local part. -/
def out3 (o : Option (List UInt8 × List UInt8)) : ByteArray × ByteArray × Bool := match o with
  | some p => (ba p.1, ba p.2, true)
  | none => (⟨#[]⟩, ⟨#[]⟩, false)
def mbS (s : ByteArray) : Bool := decide (s.size ≤ 128) && (mailS s || dnsS (if ([46] : List UInt8).isPrefixOf (L s) = true then ba ((L s).drop 1) else s))
theorem mb_p (s : ByteArray) (hs : s.size ≤ 100000) : Ev (fun k => host_MailBase.f k s) (mbS s) := by
  unfold mbS
  by_cases h8 : (s.size : Int) ≤ 128
  · rw [decide_eq_true (by omega), Bool.true_and]
    refine Ev.congr (fun k => by unfold host_MailBase.f; rw [if_pos h8]) ?_
    refine Ev.bind (mail_p s hs) ?_
    by_cases m : mailS s = true
    · rw [m, Bool.true_or]
      exact Ev.congr (f := fun _ => some true) (fun k => by rw [if_pos rfl]) (Ev.now _)
    · rw [Bool.eq_false_iff.2 m, Bool.false_or]
      have ht := trimPrefix_f s ⟨#[46]⟩ hs
      refine Ev.congr (fun k => by rw [if_neg (by decide), ht, Option.bind_some]) ?_
      exact Ev.bind (dns_p _) (Ev.now _)
  · rw [decide_eq_false (by omega), Bool.false_and]
    exact Ev.congr (f := fun _ => some false) (fun k => by unfold host_MailBase.f; rw [if_neg h8]) (Ev.now _)
theorem mail_short (s : ByteArray) (h : mailS s = true) : s.size ≤ 128 := by
  unfold mailS partsS at h
  split at h
  · assumption
  · cases h
theorem dns_short (s : ByteArray) (h : dnsS s = true) : s.size ≤ 128 := by
  unfold dnsS at h
  rw [Bool.and_eq_true] at h
  exact of_decide_eq_true h.1
theorem pre_point (l : List UInt8) : ([46] : List UInt8).isPrefixOf l = true ↔ ∃ b, l = 46 :: b := by
  rw [List.isPrefixOf_iff_prefix]
  constructor
  · rintro ⟨t, rfl⟩; exact ⟨t, rfl⟩
  · rintro ⟨t, rfl⟩; exact ⟨t, rfl⟩
theorem bt0_point (s : ByteArray) (hp : 0 < s.size) : bt s 0 = 46 ↔ ∃ b, L s = 46 :: b := by
  have h0 : 0 < (L s).length := by rw [← size_L]; exact hp
  have e := bt_get s 0 h0
  rw [show bt s 0 = ((L s)[0].toNat : Int) from e]
  constructor
  · intro h
    have := (byte_eq (L s)[0] 46 (by omega)).1 h
    refine ⟨(L s).drop 1, ?_⟩
    have h2 := List.drop_eq_getElem_cons h0
    rw [List.drop_zero, this] at h2
    exact h2
  · rintro ⟨b, hb⟩
    have : (L s)[0] = 46 := by simp only [hb]; rfl
    rw [this]; rfl
/-! ### Ignoring case -/
def lowL (s : ByteArray) : List UInt8 := L (Hand.lowS s)
def lowB (b : UInt8) : UInt8 := UInt8.ofNat (Hand.low (b.toNat : Int)).toNat
theorem lowL_map (s : ByteArray) : lowL s = (L s).map lowB := by
  unfold lowL Hand.lowS bytesOf
  show (strOfNums _).data.toList = _
  rw [strOfNums_data, List.map_map, List.map_map]
  rfl
theorem lowL_length (s : ByteArray) : (lowL s).length = s.size := by rw [lowL_map, List.length_map, size_L]
theorem low_f (s : ByteArray) (hs : s.size ≤ 100000) : Hand.host_small.f s = some (Hand.lowS s) := by unfold Hand.host_small.f; rw [if_pos (by omega)]
theorem low_r (s : ByteArray) (hs : s.size ≤ 100000) : Hand.ref01_Lower.f s = some (Hand.lowS s) := by unfold Hand.ref01_Lower.f; rw [if_pos (by omega)]
def eqS (a b : ByteArray) : Bool := decide (lowL a = lowL b)
theorem equal_p (a b : ByteArray) (ha : a.size ≤ 100000) (hb : b.size ≤ 100000) : host_equal.f a b = some (eqS a b) := by
  unfold host_equal.f eqS
  rw [low_f a ha, low_f b hb, Option.bind_some, Option.bind_some, toList_L, toList_L]
  congr 1
  rw [Bool.eq_iff_iff, beq_iff_eq, decide_eq_true_eq]; exact Iff.rfl
def endsS (a b : ByteArray) : Bool := decide (b.size ≤ a.size) && decide ((lowL a).drop (a.size - b.size) = lowL b)
theorem lowS_size (a : ByteArray) : (Hand.lowS a).size = a.size := by rw [size_L]; exact lowL_length a
theorem ends_p (a b : ByteArray) (ha : a.size ≤ 100000) (hb : b.size ≤ 100000) : host_ends.f a b = some (endsS a b) := by
  unfold host_ends.f strings_HasSuffix.f stringslite_HasSuffix.f endsS
  rw [low_f a ha, low_f b hb, Option.bind_some, Option.bind_some, lowS_size, lowS_size]
  by_cases h : b.size ≤ a.size
  · rw [if_pos (by omega), w64 _ (by omega) (by omega), if_pos (by omega), if_pos (by omega), Option.bind_some, Option.bind_some, decide_eq_true h, Bool.true_and]
    have e : ((a.size : Int) - (b.size : Int)).toNat = a.size - b.size := by omega
    rw [e, toList_L, toList_L]
    congr 1
    have e2 : L ((Hand.lowS a).extract (a.size - b.size) a.size) = (lowL a).drop (a.size - b.size) := by
      have := L_from (Hand.lowS a) (a.size - b.size)
      rw [lowS_size] at this; exact this
    rw [e2, Bool.eq_iff_iff, beq_iff_eq, decide_eq_true_eq]; exact Iff.rfl
  · rw [if_neg (by omega), Option.bind_some, Option.bind_some, decide_eq_false h, Bool.false_and]
/-! ### Mail addresses, compared -/
def matchS (a b : ByteArray) : Bool := match partsS a, partsS b with
  | some p, some q => decide (p.1 = q.1) && eqS (ba p.2) (ba q.2)
  | _, _ => false
theorem parts_cut (s : ByteArray) (p : List UInt8 × List UInt8) (h : partsS s = some p) : L s = p.1 ++ 64 :: p.2 ∧ (64 : UInt8) ∉ p.1 ∧ s.size ≤ 128 ∧ locU p.1 = true ∧ dnsS (ba p.2) = true := by
  unfold partsS at h
  split at h
  · rename_i h8
    rcases first_of 64 (L s) with hn | ⟨a, b, he, hn⟩
    · rw [cutL_miss 64 _ hn] at h; cases h
    · rw [he, cutL_hit 64 b a hn, Option.bind_some] at h
      split at h
      · rename_i hc
        obtain rfl := Option.some.inj h
        rw [Bool.and_eq_true] at hc
        exact ⟨he, hn, h8, hc.1, hc.2⟩
      · cases h
  · cases h
theorem match_p (a b : ByteArray) (ha : a.size ≤ 100000) (hb : b.size ≤ 100000) : Ev (fun k => host_MailMatch.f k a b) (matchS a b) := by
  unfold matchS
  refine Ev.bind (mail_p a ha) ?_
  have bad : Ev (fun k => host_MailMatch.j0 k a b true) false := Ev.step (f := fun _ => some false) (fun k => by simp only [host_MailMatch.j0]; rw [if_pos trivial]) (Ev.now _)
  unfold mailS
  cases hpa : partsS a with
  | none => exact Ev.congr (fun k => by rw [if_neg (by decide)]) bad
  | some p =>
    refine Ev.congr (fun k => by rw [if_pos (show (some p).isSome = true from rfl)]) ?_
    refine Ev.bind (mail_p b hb) ?_
    unfold mailS
    cases hpb : partsS b with
    | none => exact bad
    | some q =>
      obtain ⟨e1, n1, s1, _, _⟩ := parts_cut a p hpa
      obtain ⟨e2, n2, s2, _, _⟩ := parts_cut b q hpb
      have l1 : p.2.length ≤ 100000 := by have := size_L a; rw [e1] at this; simp at this; omega
      have l2 : q.2.length ≤ 100000 := by have := size_L b; rw [e2] at this; simp at this; omega
      refine Ev.step (f := fun _ => some (decide (p.1 = q.1) && eqS (ba p.2) (ba q.2))) (fun k => ?_) (Ev.now _)
      simp only [host_MailMatch.j0]
      rw [if_neg (by simp), cut_hit a ha 64 p.1 p.2 e1 n1, cut_hit b hb 64 q.1 q.2 e2 n2, Option.bind_some, Option.bind_some]
      simp only [toList_L, L_ba]
      by_cases h : p.1 = q.1
      · rw [if_pos h, equal_p _ _ (by rw [size_ba]; exact l1) (by rw [size_ba]; exact l2), Option.bind_some, decide_eq_true h, Bool.true_and]
      · rw [if_neg h, decide_eq_false h, Bool.false_and]
def inS (d base : ByteArray) : Bool := eqS d base || (decide (bt base 0 = 46) && endsS d base)
/-- What is behind the first @, or the whole. -/
def behindS (s : ByteArray) : ByteArray := match cutL 64 (L s) with
  | some p => ba p.2
  | none => s
def withinS (s base : ByteArray) : Bool := mbS base && (mbS s && (if mailS base = true then matchS s base else inS (behindS s) base))
theorem mb_size (s : ByteArray) (h : mbS s = true) : s.size ≤ 128 ∧ 0 < s.size := by
  unfold mbS at h
  rw [Bool.and_eq_true] at h
  refine ⟨of_decide_eq_true h.1, ?_⟩
  by_cases hz : 0 < s.size
  · exact hz
  · have hn : L s = [] := List.eq_nil_of_length_eq_zero (by rw [← size_L]; omega)
    have : s = ba [] := ext_L (by rw [hn, L_ba])
    subst this
    exact absurd h.2 (by decide)
theorem behind_le (s : ByteArray) : (behindS s).size ≤ s.size := by
  unfold behindS
  rcases first_of 64 (L s) with hn | ⟨a, b, he, hn⟩
  · rw [cutL_miss 64 _ hn]; exact Nat.le_refl _
  · rw [he, cutL_hit 64 b a hn]
    show (ba b).size ≤ s.size
    rw [size_ba, size_L s, he]; simp; omega
theorem within_p (s base : ByteArray) (hs : s.size ≤ 100000) (hb : base.size ≤ 100000) : Ev (fun k => host_MailWithin.f k s base) (withinS s base) := by
  unfold withinS
  have bad : Ev (fun k => host_MailWithin.j0 k s base true) false := Ev.step (f := fun _ => some false) (fun k => by simp only [host_MailWithin.j0]; rw [if_pos trivial]) (Ev.now _)
  refine Ev.bind (mb_p base hb) ?_
  by_cases h1 : mbS base = true
  · refine Ev.congr (fun k => by rw [if_pos h1]) ?_
    rw [h1, Bool.true_and]
    refine Ev.bind (mb_p s hs) ?_
    by_cases h2 : mbS s = true
    · rw [h2, Bool.true_and]
      have hsz := mb_size base h1
      refine Ev.step (fun k => by simp only [host_MailWithin.j0]; rw [if_neg (by decide)]) ?_
      refine Ev.bind (mail_p base hb) ?_
      by_cases m : mailS base = true
      · rw [if_pos m]
        refine Ev.congr (fun k => by rw [if_pos m]) ?_
        exact Ev.bind (match_p s base hs hb) (Ev.now _)
      · rw [if_neg m]
        refine Ev.congr (f := fun _ => some (inS (behindS s) base)) (fun k => ?_) (Ev.now _)
        rw [if_neg m]
        have hle := behind_le s
        have fin : ∀ d : ByteArray, d.size ≤ 100000 → ((host_equal.f d base).bind fun t142 => if t142 = true then some true else if 0 < (base.size : Int) then (if bt base 0 = 46 then (host_ends.f d base).bind fun t143 => some t143 else some false) else none) = some (inS d base) := by
          intro d hd
          rw [equal_p d base hd hb, Option.bind_some]
          unfold inS
          by_cases e : eqS d base = true
          · rw [if_pos e, e, Bool.true_or]
          · rw [if_neg e, Bool.eq_false_iff.2 e, Bool.false_or, if_pos (by omega)]
            by_cases z : bt base 0 = 46
            · rw [if_pos z, ends_p d base hd hb, Option.bind_some, decide_eq_true z, Bool.true_and]
            · rw [if_neg z, decide_eq_false z, Bool.false_and]
        unfold behindS at hle ⊢
        rcases first_of 64 (L s) with hn | ⟨a, b, he, hn⟩
        · rw [cutL_miss 64 _ hn] at hle ⊢
          rw [cut_miss s hs 64 hn, Option.bind_some, if_neg (show ¬ (((s, (⟨#[]⟩ : ByteArray), false).2.2) = true) from Bool.false_ne_true)]
          exact fin s hs
        · have hc : cutL 64 (L s) = some (a, b) := by rw [he]; exact cutL_hit 64 b a hn
          rw [hc] at hle ⊢
          rw [cut_hit s hs 64 a b he hn, Option.bind_some, if_pos rfl]
          exact fin (ba b) (by have h3 : (ba b).size ≤ s.size := hle; omega)
    · rw [Bool.eq_false_iff.2 h2, Bool.false_and]
      exact bad
  · rw [Bool.eq_false_iff.2 h1, Bool.false_and]
    exact Ev.congr (fun k => by rw [if_neg (by decide)]) bad
theorem lab_at (l : List UInt8) (h : labU l = true) : (64 : UInt8) ∉ l := by
  intro hm
  unfold labU Hand.labelB at h
  simp only [Bool.and_eq_true] at h
  have h2 := h.2
  rw [all_bytes, L_ba, List.all_eq_true] at h2
  exact absurd (h2 64 hm) (by decide)
theorem spl_mem (c x : UInt8) (hx : x ≠ c) : ∀ l : List UInt8, x ∈ l → ∃ p ∈ spl c l, x ∈ p
  | [], h => by cases h
  | y :: ys, h => by
    rw [spl_cons]
    by_cases e : y = c
    · rw [if_pos e]
      simp only [List.mem_cons] at h
      rcases h with h | h
      · exact absurd (h.trans e) hx
      · obtain ⟨p, hp, h2⟩ := spl_mem c x hx ys h
        exact ⟨p, by simp [hp], h2⟩
    · rw [if_neg e]
      cases hq : spl c ys with
      | nil => exact absurd hq (spl_ne c ys)
      | cons q qs =>
        simp only [List.mem_cons] at h
        rcases h with h | h
        · exact ⟨y :: q, by simp, by simp [h]⟩
        · obtain ⟨p, hp, h2⟩ := spl_mem c x hx ys h
          rw [hq] at hp
          simp only [List.mem_cons] at hp
          rcases hp with hp | hp
          · exact ⟨y :: q, by simp, by simp [← hp, h2]⟩
          · exact ⟨p, by simp [hp], h2⟩
theorem dns_at (s : ByteArray) (h : dnsS s = true) : (64 : UInt8) ∉ L s := by
  intro hm
  unfold dnsS at h
  rw [Bool.and_eq_true] at h
  obtain ⟨p, hp, hx⟩ := spl_mem 46 64 (by decide) (L s) hm
  exact lab_at p (List.all_eq_true.1 h.2 p hp) hx
/-- A base that is no mail address has no @. -/
theorem mb_at (s : ByteArray) (h : mbS s = true) (hm : mailS s = false) : (64 : UInt8) ∉ L s := by
  unfold mbS at h
  rw [hm, Bool.false_or, Bool.and_eq_true] at h
  have h2 := h.2
  by_cases p : ([46] : List UInt8).isPrefixOf (L s) = true
  · rw [if_pos p] at h2
    obtain ⟨b, hb⟩ := (pre_point _).1 p
    have := dns_at _ h2
    rw [L_ba, hb] at this
    rw [hb]
    intro hx
    simp only [List.mem_cons] at hx
    rcases hx with hx | hx
    · exact absurd hx (by decide)
    · exact this hx
  · rw [if_neg p] at h2
    exact dns_at s h2
/-! ### DNS names, compared -/
def dot (s : ByteArray) : ByteArray := (⟨#[46]⟩ : ByteArray) ++ s
theorem L_dot (s : ByteArray) : L (dot s) = 46 :: L s := by unfold dot; rw [L_append]; rfl
def dwS (s base : ByteArray) : Bool := (decide (L s = []) || patS s) && (baseS base && (decide (L base = []) || (eqS s base || endsS s (dot base))))
theorem dw_tail (s base : ByteArray) (hs : s.size ≤ 90000) (hb : base.size ≤ 90000) :
    (if base.toList = ([] : List UInt8) then some true else (host_equal.f s base).bind fun t158 => if t158 = true then some true else (if 1 + base.size ≤ 9223372036854775807 then (host_ends.f s (dot base)).bind fun t159 => some t159 else none)) = some (decide (L base = []) || (eqS s base || endsS s (dot base))) := by
  have hd : (dot base).size ≤ 100000 := by rw [size_L, L_dot, List.length_cons, ← size_L]; omega
  by_cases e : L base = []
  · rw [if_pos (by rw [toList_L]; exact e), decide_eq_true e, Bool.true_or]
  · rw [if_neg (by rw [toList_L]; exact e), decide_eq_false e, Bool.false_or, equal_p s base (by omega) (by omega), Option.bind_some]
    by_cases c : eqS s base = true
    · rw [if_pos c, c, Bool.true_or]
    · rw [if_neg c, Bool.eq_false_iff.2 c, Bool.false_or, if_pos (by omega), ends_p s _ (by omega) hd, Option.bind_some]
theorem dw_p (s base : ByteArray) (hs : s.size ≤ 90000) (hb : base.size ≤ 90000) : Ev (fun k => host_DNSWithin.f k s base) (dwS s base) := by
  have ht := dw_tail s base hs hb
  have hB : Ev (fun k => (host_Base.f k base).bind fun t157 => if t157 = true then (if base.toList = ([] : List UInt8) then some true else (host_equal.f s base).bind fun t158 => if t158 = true then some true else (if 1 + base.size ≤ 9223372036854775807 then (host_ends.f s (dot base)).bind fun t159 => some t159 else none)) else some false) (baseS base && (decide (L base = []) || (eqS s base || endsS s (dot base)))) := by
    refine Ev.bind (base_p base) ?_
    by_cases c : baseS base = true
    · rw [c, Bool.true_and]
      exact Ev.congr (f := fun _ => some _) (fun k => by rw [if_pos rfl]; exact ht) (Ev.now _)
    · rw [Bool.eq_false_iff.2 c, Bool.false_and]
      exact Ev.congr (f := fun _ => some false) (fun k => by rw [if_neg (by decide)]) (Ev.now _)
  unfold dwS
  by_cases e : L s = []
  · rw [decide_eq_true e, Bool.true_or, Bool.true_and]
    exact Ev.congr (fun k => by unfold host_DNSWithin.f; rw [if_pos (by rw [toList_L]; exact e)]; rfl) hB
  · rw [decide_eq_false e, Bool.false_or]
    refine Ev.congr (fun k => by unfold host_DNSWithin.f; rw [if_neg (by rw [toList_L]; exact e)]) ?_
    refine Ev.bind (pat_p s (by omega)) ?_
    by_cases c : patS s = true
    · rw [c, Bool.true_and]
      exact Ev.congr (fun k => by rw [if_pos rfl]; rfl) hB
    · rw [Bool.eq_false_iff.2 c, Bool.false_and]
      exact Ev.congr (f := fun _ => some false) (fun k => by rw [if_neg (by decide)]) (Ev.now _)
theorem awake_true : Ev (fun k => certpathlaw08_awake.f k) true := by
  unfold certpathlaw08_awake.f
  refine Ev.bind (dw_p _ _ (by decide) (by decide)) ?_
  have e1 : dwS ⟨#[77, 97, 105, 108, 46, 69, 120, 97, 109, 112, 108, 101, 46, 111, 114, 103]⟩ ⟨#[101, 120, 97, 109, 112, 108, 101, 46, 111, 114, 103]⟩ = true := by kernel_rfl
  have e2 : dwS ⟨#[109, 121, 101, 120, 97, 109, 112, 108, 101, 46, 111, 114, 103]⟩ ⟨#[101, 120, 97, 109, 112, 108, 101, 46, 111, 114, 103]⟩ = false := by kernel_rfl
  have e3 : withinS ⟨#[97, 110, 110, 64, 101, 120, 97, 109, 112, 108, 101, 46, 111, 114, 103]⟩ ⟨#[46, 101, 120, 97, 109, 112, 108, 101, 46, 111, 114, 103]⟩ = false := by kernel_rfl
  have e4 : withinS ⟨#[97, 110, 110, 64, 101, 120, 97, 109, 112, 108, 101, 46, 111, 114, 103]⟩ ⟨#[101, 120, 97, 109, 112, 108, 101, 46, 111, 114, 103]⟩ = true := by kernel_rfl
  rw [e1]
  refine Ev.congr (fun k => by rw [if_pos rfl]) ?_
  refine Ev.bind (dw_p _ _ (by decide) (by decide)) ?_
  rw [e2]
  refine Ev.congr (fun k => by rw [if_neg (by decide)]) ?_
  refine Ev.bind (within_p _ _ (by decide) (by decide)) ?_
  rw [e3]
  refine Ev.congr (fun k => by rw [if_neg (by decide)]) ?_
  refine Ev.bind (within_p _ _ (by decide) (by decide)) ?_
  rw [e4]
  exact Ev.now _
end Go.Proofs.YtegmenlonpgnpaaDoor.Host
