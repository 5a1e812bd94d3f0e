/- For every length and every first byte, Sum agrees with the definition (no condition). -/
import Derived.Test.YtpiakeejfggocabHashStreamKit
set_option linter.unusedVariables false
set_option linter.unusedSimpArgs false
namespace Go.Proofs.Ytpiakeejfggocab.Pure
open Go Go.RowKit Go.Proofs.Ytpiakeejfggocab.Q Go.Proofs.YtpiakeejfggocabW.PrintWords Go.Proofs.YtpiakeejfggocabW.PrintLast Go.Proofs.YtpiakeejfggocabW.PrintMore Go.Proofs.Ytpiakeejfggocab.Num Go.Proofs.Ytpiakeejfggocab.Strm Go.Proofs.Ytpiakeejfggocab.Hand Go.Proofs.Ytpiakeejfggocab.RefSum

theorem conv1 {W : World} {base LN : Nat} {A : Option Addr} {c : Nat} {xs : List Int} {s : ByteArray} (hr : (Kd.int .u8).R 5 W base (fun _ => True) (.slice A LN c) xs) (hl : xs.length = LN) (hs : strOfNums xs = s) : (convert 28 9 (.slice A LN c)).run Try.prog W = .ok (.string s) W := by
  have h := own_string (P := Try.prog) Try.underlying28 Try.underlying5 Try.underlying9 (Kd.own_of_R hr)
  rw [hs] at h
  exact h
section
variable {ops : Array Oper} {Q : Exit → Act → World → Prop}
theorem lit_value {oi : Oper} {N : Option Tmp} {a : Act} {W : World} {K : Act → World → Prop} {t : Tmp} {s : ByteArray} (hw : Region.wanted oi (yielded ops a.tmps) = true) (hN : oi.dst = N) (hop : oi.op = .buildSlice 22 1 #[(0, .tmp t)]) (hx : a.eval (.tmp t) = .string s)
    (h : ∀ g w1, Kd.C Kd.string w1 (some ⟨g, 0, none⟩) 1 [s] → Below W.heap.size W w1 → K (a.put N (.slice (some ⟨g, 0, none⟩) 1 1)) w1) : if Region.wanted oi (yielded ops a.tmps) = true then Oper.wp Try.prog oi a W K Q else K (a.put N undef) W := by
  refine value_ (v := .slice (some ⟨W.heap.size, 0, none⟩) 1 1) (w1 := W.alloc (.cells #[.string s] 9)) hw hN ?_ (h _ _ (lit1 W s) (below_alloc (Below.refl _ _) _))
  have hx' : a.tmps[t]?.getD undef = .string s := by simpa [Act.eval] using hx
  unfold execOp
  rw [hop]
  go_simp
end
theorem row_set {W : World} {base LN g cap : Nat} {xs : List Int} (h : W.ownsRow base 5 1 (.slice (some ⟨g, 0, none⟩) LN cap) LN (nums .u8 xs)) (hl : xs.length = LN) (i y : Int) : (Kd.int .u8).R 5 (W.setCell ⟨g, i.toNat, none⟩ (.int .u8 y)) base (fun _ => True) (.slice (some ⟨g, 0, none⟩) LN cap) (xs.set i.toNat y) := by
  have h1 := (own_store h i y).1
  have hl2 : (xs.set i.toNat y).length = LN := by rw [List.length_set]; exact hl
  rw [← hl2] at h1 ⊢
  exact Kd.R_of_own (h1 := fun _ => rfl) (ok := fun _ => True) h1 (fun _ _ => trivial)
set_option maxHeartbeats 4000000 in
set_option maxRecDepth 100000 in
theorem HashLengths_walk (a0 a1 : Int) (w : World) (w0 : (Lit.int .u16 a0).wf = true) (w1 : (Lit.int .u8 a1).wf = true) : Calls Try.prog 4 #[.int .u16 a0, .int .u8 a1] w fun e W' => e = .returned (.bool true) ∧ Below w.heap.size w W' := by
  have h0 : 0 ≤ a0 ∧ a0 ≤ 65535 := by simp [Lit.wf, IntKind.min, IntKind.max, IntKind.bits, IntKind.signed] at w0; omega
  obtain ⟨h0, h1⟩ := h0
  clear w0 w1
  have hN : (a0 % 1024).toNat < 1024 := by omega
  have HN0 := Aside0.mk hN
  clear hN
  go_enter Try.func4, Try.ntmps4
  go_wp2_with ((with_reducible refine gate_dst (N := 9) rfl ?_); refine Ext.R_makek (Kd.int .u8) w.heap.size 5 rfl (N := 9) rfl 28 (.tmp 8) (.tmp 8) rfl (a0 % 1024) (kl := .u16) (kc := .u16) rfl rfl Try.underlying28 (.int .u8 0) 1 Q.info5 rfl (by decide) (by decide) (0 : Int) (ok := fun _ => True) (okp := fun _ => False) ?hz (fun _ h => h.elim) trivial ?hn ?hl (Below.refl _ _) (Nat.le_refl _) ?_; (case hz => exact rfl); (case hn => omega); (case hl => have := HN0.out; omega); intro v1 w1 hr hb hg hnew; have HR0 := Aside0.mk hr; have HB0 := Aside0.mk hb; clear hr hb hg hnew; obtain ⟨xs0, hxs⟩ : ∃ xs : List Int, List.replicate (a0 % 1024).toNat 0 = xs := ⟨_, rfl⟩; have HL0 := Aside0.mk (show xs0.length < 1024 by rw [← hxs, List.length_replicate]; exact HN0.out); rw [hxs] at HR0; clear hxs; have hex := Kd.R_slice HR0.out; obtain ⟨A, c, hv⟩ := hex; rw [hv] at HR0; rw [hv]; clear hv)
  obtain ⟨LN, hLN⟩ : ∃ LN : Nat, xs0.length = LN := ⟨_, rfl⟩
  have HLN := Aside0.mk hLN
  rw [hLN] at HR0 HL0
  rw [hLN]
  clear hLN
  go_loopg [12] LN (fun kq v12 wr => ∃ (i : Int) (k : Nat) (xs : List Int), v12 = .int .i64 i ∧ Aside0 ((Kd.int .u8).R 5 wr w.heap.size (fun _ => True) (.slice A LN c) xs) ∧ Aside0 (Below w.heap.size w wr) ∧ Aside0 (i = k ∧ k + kq = LN ∧ xs.length = LN))
  case atStart => exact ⟨0, 0, xs0, rfl, HR0, HB0, ⟨rfl, by omega, HLN.out⟩⟩
  case round =>
    clear HR0 HB0 HLN
    obtain ⟨i, k, xs, rfl, HR, HB, HI⟩ := hrel
    have hi0 : 0 ≤ i := by have := HI.out.1; omega
    have hi1 : i ≤ 1024 := by have := HI.out; have := HL0.out; omega
    by_cases hlt : i < (LN : Int)
    · have t1 : decide (i < (LN : Int)) = true := decide_eq_true hlt
      have hown := Kd.own_of_R HR.out
      rw [HI.out.2.2] at hown
      obtain ⟨g, cap, hv, hgb, hgl⟩ := hown.form (by have := HI.out; omega)
      injection hv with e1 e2 e3
      subst e1
      subst e3
      clear e2
      obtain ⟨hc1, hf1⟩ := own_at hown i hi0 hlt
      have HO := Aside0.mk hown
      have HG := Aside0.mk hgb
      have HLT := Aside0.mk hlt
      have q1 := eq_true hi0
      have q2 := eq_true hlt
      clear hown hgb hgl hlt
      go_wp2
      go_roundg (LN - (k + 1))
      case measure => have := HI.out; have := HLT.out; omega
      case rel =>
        refine ⟨i + 1, k + 1, _, rfl, ⟨row_set HO.out HI.out.2.2 i _⟩, ⟨HB.out.setCell HG.out _⟩, ⟨?_, ?_, ?_⟩⟩
        · have := HI.out.1; omega
        · have := HI.out; have := HLT.out; omega
        · rw [List.length_set]; exact HI.out.2.2
    · have t1 : decide (i < (LN : Int)) = false := decide_eq_false hlt
      clear hlt
      obtain ⟨s, hs⟩ : ∃ s, strOfNums xs = s := ⟨_, rfl⟩
      have HNs := Aside0.mk (show s.size ≤ 1000000000 by rw [← hs]; have := HI.out.2.2; have := HL0.out; simp [strOfNums, ByteArray.size]; omega)
      obtain ⟨D, hD⟩ : ∃ D, digest (bytesOf s) = D := ⟨_, rfl⟩
      have HD := Aside0.mk hD
      have HS := Aside0.mk hs
      have HLX := Aside0.mk HI.out.2.2
      clear hs hD
      go_wp2
      have HRd := Aside0.mk (Kd.R_drew HR.out)
      have HBd := Aside0.mk HB.out.drew
      clear HR HB
      refine start_ (n := 13) (S := fun w' => (convert 28 9 (.slice A LN c)).run Try.prog w' = .ok (.string s) w') (ds := []) #[false, false, false, false, false, false, false, false, false, false, false, false, false] (by kernel_rfl) rfl rfl (conv1 HRd.out HLX.out HS.out) (fun hHeld => ?_)
      generalize wr.drew = w4 at HRd HBd hHeld ⊢
      have HR := HRd
      have HB := HBd
      clear HRd HBd
      refine one_ (i := 0) (N := some 23) #[true, false, false, false, false, false, false, false, false, false, false, false, false] rfl rfl (by kernel_rfl) (by decide) (fun K hK => ?_)
      refine goes_ Try.func9 (by kernel_rfl) rfl #[] (by rfl) rfl rfl (by first | rfl | simp) ?_
      with_reducible refine (awakeC _).mono ?_
      rintro e w5 ⟨rfl, hb⟩
      refine ⟨_, rfl, ?_⟩
      have n0_ := Aside0.mk (Kd.R_below HR.out hb)
      have n1_ := Aside0.mk (below_step HB.out hb)
      clear HR HB hb
      have HR := n0_
      have HB := n1_
      clear n0_ n1_
      refine hK.out _ _ (conv1 HR.out HLX.out HS.out) (fun hHeld => ?_)
      clear hK K
      refine norm_ (a' := ?_) ?_ ?_
      rotate_left
      · show Act.put _ (some 23) _ = _
        (simp only [Act.put, List.setIfInBounds_toArray, List.set_cons_zero, List.set_cons_succ, i64_w, i32_w]; rfl)
      refine pure_ (i := 1) (N := some 24) (v := ?_) (a' := ?_) #[true, true, false, false, false, false, false, false, false, false, false, false, false] rfl rfl (by kernel_rfl) (fun _ _ _ h => h) (Or.inl ⟨by rfl, ?_⟩) ?_ ?_
      rotate_left; (intro w'; go_simp; with_reducible rfl); rotate_left; (simp only [Act.put, List.setIfInBounds_toArray, List.set_cons_zero, List.set_cons_succ, i64_w, i32_w]; rfl)
      refine pure_ (i := 2) (N := some 25) (v := ?_) (a' := ?_) #[true, true, true, false, false, false, false, false, false, false, false, false, false] rfl rfl (by kernel_rfl) (fun _ _ _ h => h) (Or.inl ⟨by rfl, ?_⟩) ?_ ?_
      rotate_left; (intro w'; go_simp; with_reducible rfl); rotate_left; (simp only [Act.put, List.setIfInBounds_toArray, List.set_cons_zero, List.set_cons_succ, i64_w, i32_w]; rfl)
      refine pure_ (i := 6) (N := some 29) (v := ?_) (a' := ?_) #[true, true, true, false, false, false, true, false, false, false, false, false, false] rfl rfl (by kernel_rfl) (fun _ _ _ h => h) (Or.inl ⟨by rfl, ?_⟩) ?_ ?_
      rotate_left; (intro w'; go_simp; with_reducible rfl); rotate_left; (simp only [Act.put, List.setIfInBounds_toArray, List.set_cons_zero, List.set_cons_succ, i64_w, i32_w]; rfl)
      refine take_ (i := 3) (N := some 26) (v := ?_) (a' := ?_) #[true, true, true, true, false, false, true, false, false, false, false, false, false] rfl rfl (by kernel_rfl) (fun _ _ _ h => h) (Or.inl ⟨by rfl, ?_⟩) hHeld ?_ ?_
      rotate_left; (intro w' hs_; go_simp; with_reducible rfl); rotate_left; (simp only [Act.put, List.setIfInBounds_toArray, List.set_cons_zero, List.set_cons_succ, i64_w, i32_w]; rfl)
      refine take_ (i := 7) (N := some 30) (v := ?_) (a' := ?_) #[true, true, true, true, false, false, true, true, false, false, false, false, false] rfl rfl (by kernel_rfl) (fun _ _ _ h => h) (Or.inl ⟨by rfl, ?_⟩) hHeld ?_ ?_
      rotate_left; (intro w' hs_; go_simp; with_reducible rfl); rotate_left; (simp only [Act.put, List.setIfInBounds_toArray, List.set_cons_zero, List.set_cons_succ, i64_w, i32_w]; rfl)
      refine two_ (i := 4) (j := 8) (Ni := some 27) (Nj := some 31) #[true, true, true, true, true, false, true, true, false, false, false, false, false] #[true, true, true, true, false, false, true, true, true, false, false, false, false] rfl rfl rfl rfl (by kernel_rfl) (by decide) (by decide) (fun K hK => ?_) (fun K hK => ?_)
      · refine lit_value (t := 26) (s := s) (by rfl) rfl rfl rfl (fun ga w5 hc hb => ?_)
        have HCa := Aside0.mk hc
        clear hc
        have n0_ := Aside0.mk (Kd.R_below HR.out hb)
        have n1_ := Aside0.mk (below_step HB.out hb)
        clear HR HB hb
        have HR := n0_
        have HB := n1_
        clear n0_ n1_
        refine hK.out _ _ (conv1 HR.out HLX.out HS.out) (fun hHeld => ?_)
        clear hK K
        refine norm_ (a' := ?_) ?_ ?_
        rotate_left
        · show Act.put _ (some 27) _ = _
          (simp only [Act.put, List.setIfInBounds_toArray, List.set_cons_zero, List.set_cons_succ, i64_w, i32_w]; rfl)
        refine two_ (i := 5) (j := 8) (Ni := some 28) (Nj := some 31) #[true, true, true, true, true, true, true, true, false, false, false, false, false] #[true, true, true, true, true, false, true, true, true, false, false, false, false] rfl rfl rfl rfl (by kernel_rfl) (by decide) (by decide) (fun K hK => ?_) (fun K hK => ?_)
        · refine goes_ Try.func10 (by kernel_rfl) rfl #[.slice (some ⟨ga, 0, none⟩) 1 1] (by rfl) rfl rfl (by (try simp only [List.map_toArray, List.map_cons, List.map_nil]); first | done | rfl) ?_
          with_reducible refine (sum1 s D ga _ HCa.out HD.out HNs.out).mono ?_
          rintro e w5 ⟨rfl, hb⟩
          refine ⟨_, rfl, ?_⟩
          have n0_ := Aside0.mk (Kd.R_below HR.out hb)
          have n1_ := Aside0.mk (below_step HB.out hb)
          clear HR HB hb
          have HR := n0_
          have HB := n1_
          clear n0_ n1_
          refine hK.out _ _ (conv1 HR.out HLX.out HS.out) (fun hHeld => ?_)
          clear hK K
          refine norm_ (a' := ?_) ?_ ?_
          rotate_left
          · show Act.put _ (some 28) _ = _
            (simp only [Act.put, List.setIfInBounds_toArray, List.set_cons_zero, List.set_cons_succ, i64_w, i32_w]; rfl)
          refine one_ (i := 8) (N := some 31) #[true, true, true, true, true, true, true, true, true, false, false, false, false] rfl rfl (by kernel_rfl) (by decide) (fun K hK => ?_)
          refine lit_value (t := 30) (s := s) (by rfl) rfl rfl rfl (fun gb w5 hc hb => ?_)
          have HCb := Aside0.mk hc
          clear hc
          have n0_ := Aside0.mk (Kd.R_below HR.out hb)
          have n1_ := Aside0.mk (below_step HB.out hb)
          clear HR HB hb
          have HR := n0_
          have HB := n1_
          clear n0_ n1_
          refine hK.out _ _ (conv1 HR.out HLX.out HS.out) (fun hHeld => ?_)
          clear hK K
          refine norm_ (a' := ?_) ?_ ?_
          rotate_left
          · show Act.put _ (some 31) _ = _
            (simp only [Act.put, List.setIfInBounds_toArray, List.set_cons_zero, List.set_cons_succ, i64_w, i32_w]; rfl)
          refine one_ (i := 9) (N := some 32) #[true, true, true, true, true, true, true, true, true, true, false, false, false] rfl rfl (by kernel_rfl) (by decide) (fun K hK => ?_)
          refine goes_ Try.func11 (by kernel_rfl) rfl #[.slice (some ⟨gb, 0, none⟩) 1 1] (by rfl) rfl rfl (by (try simp only [List.map_toArray, List.map_cons, List.map_nil]); first | done | rfl) ?_
          with_reducible refine (ref1 s D gb _ HCb.out HD.out HNs.out).mono ?_
          rintro e w5 ⟨rfl, hb⟩
          refine ⟨_, rfl, ?_⟩
          have n0_ := Aside0.mk (Kd.R_below HR.out hb)
          have n1_ := Aside0.mk (below_step HB.out hb)
          clear HR HB hb
          have HR := n0_
          have HB := n1_
          clear n0_ n1_
          refine hK.out _ _ (conv1 HR.out HLX.out HS.out) (fun hHeld => ?_)
          clear hK K
          refine norm_ (a' := ?_) ?_ ?_
          rotate_left
          · show Act.put _ (some 32) _ = _
            (simp only [Act.put, List.setIfInBounds_toArray, List.set_cons_zero, List.set_cons_succ, i64_w, i32_w]; rfl)
          refine pure_ (i := 10) (N := some 33) (v := ?_) (a' := ?_) #[true, true, true, true, true, true, true, true, true, true, true, false, false] rfl rfl (by kernel_rfl) (fun _ _ _ h => h) (Or.inl ⟨by rfl, ?_⟩) ?_ ?_
          rotate_left; (intro w'; go_simp; with_reducible rfl); rotate_left; (simp only [Act.put, List.setIfInBounds_toArray, List.set_cons_zero, List.set_cons_succ, i64_w, i32_w]; rfl)
          refine pure_ (i := 11) (N := some 34) (v := ?_) (a' := ?_) #[true, true, true, true, true, true, true, true, true, true, true, true, false] rfl rfl (by kernel_rfl) (fun _ _ _ h => h) (Or.inl ⟨by rfl, ?_⟩) ?_ ?_
          rotate_left; (intro w'; go_simp; with_reducible rfl); rotate_left; (simp only [Act.put, List.setIfInBounds_toArray, List.set_cons_zero, List.set_cons_succ, i64_w, i32_w]; rfl)
          refine pure_ (i := 12) (N := some 4) (v := ?_) (a' := ?_) #[true, true, true, true, true, true, true, true, true, true, true, true, true] rfl rfl (by kernel_rfl) (fun _ _ _ h => h) (Or.inl ⟨by rfl, ?_⟩) ?_ ?_
          rotate_left; (intro w'; go_simp; with_reducible rfl); rotate_left; (simp only [Act.put, List.setIfInBounds_toArray, List.set_cons_zero, List.set_cons_succ, i64_w, i32_w]; rfl)
          refine done_ (by kernel_rfl) ?_
          go_wp2
          go_ret
          exact ⟨rfl, HB.out⟩
        · refine lit_value (t := 30) (s := s) (by rfl) rfl rfl rfl (fun gb w5 hc hb => ?_)
          have n2_ := Aside0.mk (Kd.C_below HCa.out hb)
          clear HCa
          have HCa := n2_
          clear n2_
          have HCb := Aside0.mk hc
          clear hc
          have n0_ := Aside0.mk (Kd.R_below HR.out hb)
          have n1_ := Aside0.mk (below_step HB.out hb)
          clear HR HB hb
          have HR := n0_
          have HB := n1_
          clear n0_ n1_
          refine hK.out _ _ (conv1 HR.out HLX.out HS.out) (fun hHeld => ?_)
          clear hK K
          refine norm_ (a' := ?_) ?_ ?_
          rotate_left
          · show Act.put _ (some 31) _ = _
            (simp only [Act.put, List.setIfInBounds_toArray, List.set_cons_zero, List.set_cons_succ, i64_w, i32_w]; rfl)
          refine one_ (i := 5) (N := some 28) #[true, true, true, true, true, true, true, true, true, false, false, false, false] rfl rfl (by kernel_rfl) (by decide) (fun K hK => ?_)
          refine goes_ Try.func10 (by kernel_rfl) rfl #[.slice (some ⟨ga, 0, none⟩) 1 1] (by rfl) rfl rfl (by (try simp only [List.map_toArray, List.map_cons, List.map_nil]); first | done | rfl) ?_
          with_reducible refine (sum1 s D ga _ HCa.out HD.out HNs.out).mono ?_
          rintro e w5 ⟨rfl, hb⟩
          refine ⟨_, rfl, ?_⟩
          have n2_ := Aside0.mk (Kd.C_below HCb.out hb)
          clear HCb
          have HCb := n2_
          clear n2_
          have n0_ := Aside0.mk (Kd.R_below HR.out hb)
          have n1_ := Aside0.mk (below_step HB.out hb)
          clear HR HB hb
          have HR := n0_
          have HB := n1_
          clear n0_ n1_
          refine hK.out _ _ (conv1 HR.out HLX.out HS.out) (fun hHeld => ?_)
          clear hK K
          refine norm_ (a' := ?_) ?_ ?_
          rotate_left
          · show Act.put _ (some 28) _ = _
            (simp only [Act.put, List.setIfInBounds_toArray, List.set_cons_zero, List.set_cons_succ, i64_w, i32_w]; rfl)
          refine one_ (i := 9) (N := some 32) #[true, true, true, true, true, true, true, true, true, true, false, false, false] rfl rfl (by kernel_rfl) (by decide) (fun K hK => ?_)
          refine goes_ Try.func11 (by kernel_rfl) rfl #[.slice (some ⟨gb, 0, none⟩) 1 1] (by rfl) rfl rfl (by (try simp only [List.map_toArray, List.map_cons, List.map_nil]); first | done | rfl) ?_
          with_reducible refine (ref1 s D gb _ HCb.out HD.out HNs.out).mono ?_
          rintro e w5 ⟨rfl, hb⟩
          refine ⟨_, rfl, ?_⟩
          have n0_ := Aside0.mk (Kd.R_below HR.out hb)
          have n1_ := Aside0.mk (below_step HB.out hb)
          clear HR HB hb
          have HR := n0_
          have HB := n1_
          clear n0_ n1_
          refine hK.out _ _ (conv1 HR.out HLX.out HS.out) (fun hHeld => ?_)
          clear hK K
          refine norm_ (a' := ?_) ?_ ?_
          rotate_left
          · show Act.put _ (some 32) _ = _
            (simp only [Act.put, List.setIfInBounds_toArray, List.set_cons_zero, List.set_cons_succ, i64_w, i32_w]; rfl)
          refine pure_ (i := 10) (N := some 33) (v := ?_) (a' := ?_) #[true, true, true, true, true, true, true, true, true, true, true, false, false] rfl rfl (by kernel_rfl) (fun _ _ _ h => h) (Or.inl ⟨by rfl, ?_⟩) ?_ ?_
          rotate_left; (intro w'; go_simp; with_reducible rfl); rotate_left; (simp only [Act.put, List.setIfInBounds_toArray, List.set_cons_zero, List.set_cons_succ, i64_w, i32_w]; rfl)
          refine pure_ (i := 11) (N := some 34) (v := ?_) (a' := ?_) #[true, true, true, true, true, true, true, true, true, true, true, true, false] rfl rfl (by kernel_rfl) (fun _ _ _ h => h) (Or.inl ⟨by rfl, ?_⟩) ?_ ?_
          rotate_left; (intro w'; go_simp; with_reducible rfl); rotate_left; (simp only [Act.put, List.setIfInBounds_toArray, List.set_cons_zero, List.set_cons_succ, i64_w, i32_w]; rfl)
          refine pure_ (i := 12) (N := some 4) (v := ?_) (a' := ?_) #[true, true, true, true, true, true, true, true, true, true, true, true, true] rfl rfl (by kernel_rfl) (fun _ _ _ h => h) (Or.inl ⟨by rfl, ?_⟩) ?_ ?_
          rotate_left; (intro w'; go_simp; with_reducible rfl); rotate_left; (simp only [Act.put, List.setIfInBounds_toArray, List.set_cons_zero, List.set_cons_succ, i64_w, i32_w]; rfl)
          refine done_ (by kernel_rfl) ?_
          go_wp2
          go_ret
          exact ⟨rfl, HB.out⟩
      · refine lit_value (t := 30) (s := s) (by rfl) rfl rfl rfl (fun gb w5 hc hb => ?_)
        have HCb := Aside0.mk hc
        clear hc
        have n0_ := Aside0.mk (Kd.R_below HR.out hb)
        have n1_ := Aside0.mk (below_step HB.out hb)
        clear HR HB hb
        have HR := n0_
        have HB := n1_
        clear n0_ n1_
        refine hK.out _ _ (conv1 HR.out HLX.out HS.out) (fun hHeld => ?_)
        clear hK K
        refine norm_ (a' := ?_) ?_ ?_
        rotate_left
        · show Act.put _ (some 31) _ = _
          (simp only [Act.put, List.setIfInBounds_toArray, List.set_cons_zero, List.set_cons_succ, i64_w, i32_w]; rfl)
        refine one_ (i := 4) (N := some 27) #[true, true, true, true, true, false, true, true, true, false, false, false, false] rfl rfl (by kernel_rfl) (by decide) (fun K hK => ?_)
        refine lit_value (t := 26) (s := s) (by rfl) rfl rfl rfl (fun ga w5 hc hb => ?_)
        have n2_ := Aside0.mk (Kd.C_below HCb.out hb)
        clear HCb
        have HCb := n2_
        clear n2_
        have HCa := Aside0.mk hc
        clear hc
        have n0_ := Aside0.mk (Kd.R_below HR.out hb)
        have n1_ := Aside0.mk (below_step HB.out hb)
        clear HR HB hb
        have HR := n0_
        have HB := n1_
        clear n0_ n1_
        refine hK.out _ _ (conv1 HR.out HLX.out HS.out) (fun hHeld => ?_)
        clear hK K
        refine norm_ (a' := ?_) ?_ ?_
        rotate_left
        · show Act.put _ (some 27) _ = _
          (simp only [Act.put, List.setIfInBounds_toArray, List.set_cons_zero, List.set_cons_succ, i64_w, i32_w]; rfl)
        refine one_ (i := 5) (N := some 28) #[true, true, true, true, true, true, true, true, true, false, false, false, false] rfl rfl (by kernel_rfl) (by decide) (fun K hK => ?_)
        refine goes_ Try.func10 (by kernel_rfl) rfl #[.slice (some ⟨ga, 0, none⟩) 1 1] (by rfl) rfl rfl (by (try simp only [List.map_toArray, List.map_cons, List.map_nil]); first | done | rfl) ?_
        with_reducible refine (sum1 s D ga _ HCa.out HD.out HNs.out).mono ?_
        rintro e w5 ⟨rfl, hb⟩
        refine ⟨_, rfl, ?_⟩
        have n2_ := Aside0.mk (Kd.C_below HCb.out hb)
        clear HCb
        have HCb := n2_
        clear n2_
        have n0_ := Aside0.mk (Kd.R_below HR.out hb)
        have n1_ := Aside0.mk (below_step HB.out hb)
        clear HR HB hb
        have HR := n0_
        have HB := n1_
        clear n0_ n1_
        refine hK.out _ _ (conv1 HR.out HLX.out HS.out) (fun hHeld => ?_)
        clear hK K
        refine norm_ (a' := ?_) ?_ ?_
        rotate_left
        · show Act.put _ (some 28) _ = _
          (simp only [Act.put, List.setIfInBounds_toArray, List.set_cons_zero, List.set_cons_succ, i64_w, i32_w]; rfl)
        refine one_ (i := 9) (N := some 32) #[true, true, true, true, true, true, true, true, true, true, false, false, false] rfl rfl (by kernel_rfl) (by decide) (fun K hK => ?_)
        refine goes_ Try.func11 (by kernel_rfl) rfl #[.slice (some ⟨gb, 0, none⟩) 1 1] (by rfl) rfl rfl (by (try simp only [List.map_toArray, List.map_cons, List.map_nil]); first | done | rfl) ?_
        with_reducible refine (ref1 s D gb _ HCb.out HD.out HNs.out).mono ?_
        rintro e w5 ⟨rfl, hb⟩
        refine ⟨_, rfl, ?_⟩
        have n0_ := Aside0.mk (Kd.R_below HR.out hb)
        have n1_ := Aside0.mk (below_step HB.out hb)
        clear HR HB hb
        have HR := n0_
        have HB := n1_
        clear n0_ n1_
        refine hK.out _ _ (conv1 HR.out HLX.out HS.out) (fun hHeld => ?_)
        clear hK K
        refine norm_ (a' := ?_) ?_ ?_
        rotate_left
        · show Act.put _ (some 32) _ = _
          (simp only [Act.put, List.setIfInBounds_toArray, List.set_cons_zero, List.set_cons_succ, i64_w, i32_w]; rfl)
        refine pure_ (i := 10) (N := some 33) (v := ?_) (a' := ?_) #[true, true, true, true, true, true, true, true, true, true, true, false, false] rfl rfl (by kernel_rfl) (fun _ _ _ h => h) (Or.inl ⟨by rfl, ?_⟩) ?_ ?_
        rotate_left; (intro w'; go_simp; with_reducible rfl); rotate_left; (simp only [Act.put, List.setIfInBounds_toArray, List.set_cons_zero, List.set_cons_succ, i64_w, i32_w]; rfl)
        refine pure_ (i := 11) (N := some 34) (v := ?_) (a' := ?_) #[true, true, true, true, true, true, true, true, true, true, true, true, false] rfl rfl (by kernel_rfl) (fun _ _ _ h => h) (Or.inl ⟨by rfl, ?_⟩) ?_ ?_
        rotate_left; (intro w'; go_simp; with_reducible rfl); rotate_left; (simp only [Act.put, List.setIfInBounds_toArray, List.set_cons_zero, List.set_cons_succ, i64_w, i32_w]; rfl)
        refine pure_ (i := 12) (N := some 4) (v := ?_) (a' := ?_) #[true, true, true, true, true, true, true, true, true, true, true, true, true] rfl rfl (by kernel_rfl) (fun _ _ _ h => h) (Or.inl ⟨by rfl, ?_⟩) ?_ ?_
        rotate_left; (intro w'; go_simp; with_reducible rfl); rotate_left; (simp only [Act.put, List.setIfInBounds_toArray, List.set_cons_zero, List.set_cons_succ, i64_w, i32_w]; rfl)
        refine done_ (by kernel_rfl) ?_
        go_wp2
        go_ret
        exact ⟨rfl, HB.out⟩
end Go.Proofs.Ytpiakeejfggocab.Pure
