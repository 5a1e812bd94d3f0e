/- For all three numbers: of long labels, names and local parts, the program's DNS, Pattern, Mail and MailBase accept those that the document's definition accepts (no condition). -/
import Derived.Test.YtegmenlonpgnpaaDoorQx18
import Derived.Test.YtegmenlonpgnpaaDoorHost
set_option linter.unusedVariables false
set_option linter.unusedSimpArgs false
namespace Go.Proofs.YtegmenlonpgnpaaDoor.Pure
open Go Go.RowKit Go.Proofs.YtegmenlonpgnpaaDoor.Q Go.Proofs.YtegmenlonpgnpaaDoorW.PrintWords Go.Proofs.YtegmenlonpgnpaaDoorW.PrintLast Go.Proofs.YtegmenlonpgnpaaDoorW.PrintMore Go.Proofs.YtegmenlonpgnpaaDoor.Num Go.Proofs.YtegmenlonpgnpaaDoor.Str Go.Proofs.YtegmenlonpgnpaaDoor.Host


theorem law_loop (xs : List ByteArray) (hx : ∀ x ∈ xs, x.size ≤ 100000) (hl : xs.length < 100) : ∀ (d : Nat) (i : Int), 0 ≤ i → (xs.length : Int) - i = d →
    Ev (fun k => certpathlaw08_HostLong.l3 k xs xs.length i) true
  | 0, i, h0, hd => by
    refine Ev.step (f := fun k => _) (fun k => by simp only [certpathlaw08_HostLong.l3]; rw [if_neg (by omega)]) ?_
    exact Ev.bind awake_true (Ev.now _)
  | d + 1, i, h0, hd => by
    have hs : (rdOf ByteArray.empty xs i).size ≤ 100000 := by
      refine hx _ ?_
      unfold rdOf
      rw [List.getD_eq_getElem?_getD, List.getElem?_eq_getElem (by omega)]
      exact List.getElem_mem _
    generalize hxe : rdOf ByteArray.empty xs i = x at hs
    refine Ev.step (fun k => by simp only [certpathlaw08_HostLong.l3]; rw [if_pos (by omega), if_pos h0, if_pos (by omega), w64 (i + 1) (by omega) (by omega), hxe]) ?_
    refine Ev.bind (dns_p x) (Ev.bind (dns_r x) ?_)
    rw [bne_self_eq_false]
    refine Ev.congr (fun k => by rw [if_neg (by decide)]) ?_
    refine Ev.bind (pat_p x hs) (Ev.bind (pat_r x hs) ?_)
    rw [bne_self_eq_false]
    refine Ev.congr (fun k => by rw [if_neg (by decide)]) ?_
    refine Ev.bind (mail_p x hs) (Ev.bind (mail_r x) ?_)
    rw [bne_self_eq_false]
    refine Ev.congr (fun k => by rw [if_neg (by decide)]) ?_
    refine Ev.bind (mb_p x hs) (Ev.bind (mb_r x) ?_)
    rw [bne_self_eq_false]
    refine Ev.congr (fun k => by rw [if_neg (by decide)]) ?_
    exact law_loop xs hx hl d (i + 1) (by omega) (by omega)
theorem m_loop (c : Int) (hc : 0 ≤ c ∧ c ≤ 255) (x s : ByteArray) (hx : x.size ≤ 100) (hs : s.size ≤ 500) : ∀ (d i : Nat) (m : ByteArray), (58 + c % 10) - i = d → i ≤ 67 → m.size ≤ i → Ev (fun k => certpathlaw08_HostLong.l2 k c x s m i) true
  | 0, i, m, hd, hi, hm => by
    have h1 : (m ++ (⟨#[64]⟩ : ByteArray)).size = m.size + 1 := by rw [ByteArray.size_append]; rfl
    refine Ev.step (f := fun k => certpathlaw08_HostLong.l3 k [x, s, (⟨#[42, 46]⟩ : ByteArray) ++ s, (⟨#[46]⟩ : ByteArray) ++ s, (⟨#[42, 46, 121, 46]⟩ : ByteArray) ++ x, (m ++ (⟨#[64]⟩ : ByteArray)) ++ x, (m ++ (⟨#[64]⟩ : ByteArray)) ++ s, (⟨#[109, 64]⟩ : ByteArray) ++ s] ((8 : Nat) : Int) 0) (fun k => ?_) ?_
    · simp only [certpathlaw08_HostLong.l2]
      rw [Int.tmod_eq_emod_of_nonneg hc.1, w64 (c % 10) (by omega) (by omega), w64 _ (by omega) (by omega), if_neg (by omega), if_pos (by omega), if_pos (by omega), if_pos (by omega), if_pos (by omega), if_pos (by omega), if_pos (by omega), Option.bind_some]
      rfl
    · refine law_loop _ ?_ (by simp) 8 0 (by omega) (by simp)
      intro y hy
      simp only [List.mem_cons, List.not_mem_nil, or_false] at hy
      rcases hy with rfl | rfl | rfl | rfl | rfl | rfl | rfl | rfl
      · omega
      · omega
      · rw [ByteArray.size_append]; show 2 + s.size ≤ _; omega
      · rw [ByteArray.size_append]; show 1 + s.size ≤ _; omega
      · rw [ByteArray.size_append]; show 4 + x.size ≤ _; omega
      · rw [ByteArray.size_append]; omega
      · rw [ByteArray.size_append]; omega
      · rw [ByteArray.size_append]; show 2 + s.size ≤ _; omega
  | d + 1, i, m, hd, hi, hm => by
    have h1 : (m ++ (⟨#[109]⟩ : ByteArray)).size = m.size + 1 := by rw [ByteArray.size_append]; rfl
    refine Ev.step (fun k => ?_) (m_loop c hc x s hx hs d (i + 1) (m ++ (⟨#[109]⟩ : ByteArray)) (by omega) (by omega) (by omega))
    simp only [certpathlaw08_HostLong.l2]
    rw [Int.tmod_eq_emod_of_nonneg hc.1, w64 (c % 10) (by omega) (by omega), w64 _ (by omega) (by omega), if_pos (by omega), if_pos (by omega), w64 _ (by omega) (by omega)]
    rfl
theorem s_loop (b c : Int) (hb : 0 ≤ b ∧ b ≤ 255) (hc : 0 ≤ c ∧ c ≤ 255) (x : ByteArray) (hx : x.size ≤ 100) : ∀ (d i : Nat) (s : ByteArray), (b % 130) - i = d → i ≤ 130 → s.size ≤ 100 + 2 * i → Ev (fun k => certpathlaw08_HostLong.l1 k b c x s i) true
  | 0, i, s, hd, hi, hs => by
    refine Ev.step (fun k => ?_) (m_loop c hc x s hx (by omega) (58 + c % 10).toNat 0 ⟨#[]⟩ (by omega) (by omega) (by decide))
    simp only [certpathlaw08_HostLong.l1]
    rw [Int.tmod_eq_emod_of_nonneg hb.1, w64 (b % 130) (by omega) (by omega), if_neg (by omega)]
    rfl
  | d + 1, i, s, hd, hi, hs => by
    have hy : ((⟨#[46, 121]⟩ : ByteArray).extract ((i : Int) % 2).toNat ((i : Int) % 2 + 1).toNat).size ≤ 2 := by rw [ByteArray.size_extract]; show min _ 2 - _ ≤ 2; omega
    generalize hz : (⟨#[46, 121]⟩ : ByteArray).extract ((i : Int) % 2).toNat ((i : Int) % 2 + 1).toNat = z at hy
    have h1 : (s ++ z).size = s.size + z.size := ByteArray.size_append
    refine Ev.step (fun k => ?_) (s_loop b c hb hc x hx d (i + 1) (s ++ z) (by omega) (by omega) (by omega))
    simp only [certpathlaw08_HostLong.l1]
    rw [Int.tmod_eq_emod_of_nonneg hb.1, w64 (b % 130) (by omega) (by omega), if_pos (by omega), Int.tmod_eq_emod_of_nonneg (by omega : (0 : Int) ≤ i), if_pos (by omega), w64 ((i : Int) % 2 + 1) (by omega) (by omega), if_pos (by omega), if_pos (by omega), hz, if_pos (by omega), w64 _ (by omega) (by omega)]
    rfl
theorem x_loop (a b c : Int) (ha : 0 ≤ a ∧ a ≤ 255) (hb : 0 ≤ b ∧ b ≤ 255) (hc : 0 ≤ c ∧ c ≤ 255) : ∀ (d i : Nat) (x : ByteArray), (58 + a % 10) - i = d → i ≤ 67 → x.size ≤ i → Ev (fun k => certpathlaw08_HostLong.l0 k a b c x i) true
  | 0, i, x, hd, hi, hx => by
    refine Ev.step (fun k => ?_) (s_loop b c hb hc x (by omega) (b % 130).toNat 0 x (by omega) (by omega) (by omega))
    simp only [certpathlaw08_HostLong.l0]
    rw [Int.tmod_eq_emod_of_nonneg ha.1, w64 (a % 10) (by omega) (by omega), w64 _ (by omega) (by omega), if_neg (by omega)]
    rfl
  | d + 1, i, x, hd, hi, hx => by
    have h1 : (x ++ (⟨#[120]⟩ : ByteArray)).size = x.size + 1 := by rw [ByteArray.size_append]; rfl
    refine Ev.step (fun k => ?_) (x_loop a b c ha hb hc d (i + 1) (x ++ (⟨#[120]⟩ : ByteArray)) (by omega) (by omega) (by omega))
    simp only [certpathlaw08_HostLong.l0]
    rw [Int.tmod_eq_emod_of_nonneg ha.1, w64 (a % 10) (by omega) (by omega), w64 _ (by omega) (by omega), if_pos (by omega), if_pos (by omega), w64 _ (by omega) (by omega)]
    rfl
theorem HostLong : certpathlaw08_HostLong.Pure := by
  intro a b c ha hb hc
  have ha' : 0 ≤ a ∧ a ≤ 255 := by simp [Lit.wf, IntKind.min, IntKind.max, IntKind.bits, IntKind.signed] at ha; omega
  have hb' : 0 ≤ b ∧ b ≤ 255 := by simp [Lit.wf, IntKind.min, IntKind.max, IntKind.bits, IntKind.signed] at hb; omega
  have hc' : 0 ≤ c ∧ c ≤ 255 := by simp [Lit.wf, IntKind.min, IntKind.max, IntKind.bits, IntKind.signed] at hc; omega
  apply Ev.rounds
  unfold certpathlaw08_HostLong.f
  exact x_loop a b c ha' hb' hc' (58 + a % 10).toNat 0 ⟨#[]⟩ (by omega) (by omega) (by decide)

end Go.Proofs.YtegmenlonpgnpaaDoor.Pure
