/- An array in memory that is filled as a whole where it is made. -/
import Derived.Test.YtpiakeejfggocabExt
import Derived.Test.YtpiakeejfggocabWArr
set_option linter.unusedVariables false
namespace Go.Proofs.Ytpiakeejfggocab.Ext
open Go Go.RowKit Go.Proofs.YtpiakeejfggocabW.PrintWords Go.Proofs.YtpiakeejfggocabW.PrintLast Go.Proofs.YtpiakeejfggocabW.PrintMore
theorem arr_row {k : IntKind} {e n g : Nat} {w : World} {base : Nat} {ok : Nat → Prop} {hs : 0 < (Kd.int k).sz} {l : List Int} (h : (Kd.arr n (Kd.int k) hs).R e w base ok (.slice (some ⟨g, 0, none⟩) 1 1) [l]) (hm : n ≤ 1000000) :
    (Kd.int k).R e w base ok (.slice (some ⟨g, 0, none⟩) n n) l := by
  obtain ⟨h1, inner, ho, hr⟩ := h
  have hM := hr.2 0 l rfl
  obtain ⟨hl, hcells⟩ := hM
  have hil : inner.length = n := by
    have := ho.1
    simp only [List.length_cons, List.length_nil] at this
    rw [this]; show (0 + 1) * (n * 1) = n; omega
  have hin : (inner.drop (0 * (Kd.arr n (Kd.int k) hs).sz)).take (Kd.arr n (Kd.int k) hs).sz = inner := by
    rw [Nat.zero_mul, List.drop_zero]
    exact List.take_of_length_le (by rw [hil]; show n ≤ n * 1; omega)
  rw [hin] at hcells
  refine ⟨fun k' hk => h1 k' (by simpa [Value.ownBlock] using hk), inner, ?_, ?_⟩
  · rcases ho.2 with ⟨hv, _⟩ | ⟨g', cap, cur, hv, hb, hh, hn, hc, hcur, htake⟩
    · cases hv
    · injection hv with e1 e2 e3
      injection e1 with e1
      injection e1 with e1
      subst e1
      subst e3
      refine ⟨by rw [hil, hl]; show n = n * 1; omega, .inr ⟨g, n, cur, by rw [hl], hb, hh, by rw [hl]; exact Nat.le_refl _, by simp [maxLen]; omega, ?_, ?_⟩⟩
      · rw [hcur]; show 1 * (n * 1) = n * 1; omega
      · simp only [List.length_cons, List.length_nil] at htake
        rw [hl]
        have e4 : (0 + 1) * (Kd.arr n (Kd.int k) hs).sz = n * (Kd.int k).sz := by show (0 + 1) * (n * 1) = n * 1; omega
        rw [← e4]; exact htake
  · exact ⟨by rw [hil, hl]; show n = n * 1; omega, fun j p hp => hcells.2 j p hp⟩
theorem arr_block {k : IntKind} {e n g : Nat} {w : World} {base : Nat} {ok : Nat → Prop} {l : List Int} (h : (Kd.int k).R e w base ok (.slice (some ⟨g, 0, none⟩) n n) l) (hn : 0 < n) : w.heap[g]? = some (.cells (l.map (Value.int k)).toArray e (0, 0)) := by
  obtain ⟨_, inner, ho, hr⟩ := h
  have hin := Kd.reps_encs hr
  rcases ho.2 with ⟨hv, _⟩ | ⟨g', cap, cur, hv, hb, hh, hle, hc, hcur, htake⟩
  · cases hv
  · injection hv with e1 e2 e3
    injection e1 with e1
    injection e1 with e1
    subst e1
    subst e3
    have e4 : cur.toList = l.map (Value.int k) := by
      rw [List.take_of_length_le (by rw [Array.length_toList, hcur, ← e2]; exact Nat.le_refl _)] at htake
      rw [htake, hin]; rfl
    rw [hh, ← e4]
theorem arr_zeros (k : IntKind) (n : Nat) (hs : 0 < (Kd.int k).sz) (W : World) (base : Nat) (okp : Nat → Prop) : Reps ((Kd.arr n (Kd.int k) hs).M W base okp) (Kd.arr n (Kd.int k) hs).sz [List.replicate n (0 : Int)] (List.replicate n (Value.int k 0)) := by
  refine ⟨by simp [Kd.arr, Kd.int, Kd.scalar], fun j p hp => ?_⟩
  cases j with
  | zero =>
    obtain rfl := Option.some.inj hp
    have e1 : ((List.replicate n (Value.int k 0)).drop (0 * (Kd.arr n (Kd.int k) hs).sz)).take (Kd.arr n (Kd.int k) hs).sz = List.replicate n (Value.int k 0) := by
      rw [Nat.zero_mul, List.drop_zero]
      exact List.take_of_length_le (by rw [List.length_replicate]; show n ≤ n * 1; omega)
    rw [e1]
    exact ⟨by simp, reps_zeros k n W base okp⟩
  | succ j => simp at hp
section
variable {P : Program} {ops : Array Oper} {rest : List Oper} {o o2 : Oper} {a : Act} {Q : Exit → Act → World → Prop} {W : World}
theorem arr_store (k : IntKind) {w0 : World} (base e : Nat) (hgd2 : o2.guard = none) (hN2 : o2.dst = none) (t : TypeId) (p x : Operand) (ho2 : o2.op = .store t p x) (n : Nat) (hn1 : n ≤ 1000000) (hs : 0 < (Kd.int k).sz)
    (l zs : List Int) (hl' : l.length = n) {g : Nat} (hx : a.eval x = .agg (l.map (Value.int k)).toArray) (hp : a.eval p = .pointer (some ⟨g, 0, none⟩)) (ht : (P.info? t).map (·.size) = some n)
    {ok : Nat → Prop} (hr : (Kd.arr n (Kd.int k) hs).R e W base ok (.slice (some ⟨g, 0, none⟩) 1 1) [zs]) (hb : Below base w0 W)
    (h : ∀ w2, (Kd.int k).R e w2 base ok (.slice (some ⟨g, 0, none⟩) n n) l → Below base w0 w2 → W.grownBy w2 (some g) → wpList P ops Q rest a w2) : wpList P ops Q (o2 :: rest) a W := by
  obtain ⟨ce, hcl, hM, hcc, hfr⟩ := Kd.R_elem hr [] 0 (Int.le_refl _) (by simp)
  refine Kd.R_store (Kd.arr n (Kd.int k) hs) base hN2 hgd2 t p x ho2 e (0 : Int) 0 [zs] l (.agg (l.map (Value.int k)).toArray) (l.map (Value.int k)) ce ok (fun _ => False) hp (by simp) hx (by simp [Value.cells]) ?_ ?_ hr (Int.le_refl _) (by simp) hcl (fun j u hu => ?_) ?_ ?_ (fun _ h => h.elim) hb ?_
  · rw [ht, List.length_map, hl']
  · intro q hq
    obtain ⟨y, _, rfl⟩ := List.mem_map.1 hq
    rfl
  · simpa using hcc j u hu
  · rw [List.length_map, hl']; show 0 + n ≤ n * 1; omega
  · have hcl2 : ce.length = n := by rw [hcl]; show n * 1 = n; omega
    have e2 : ce.take 0 ++ l.map (Value.int k) ++ ce.drop (0 + (l.map (Value.int k)).length) = encs (Value.int k) l := by
      rw [List.take_zero, List.nil_append, List.drop_eq_nil_of_le (by rw [List.length_map]; omega), List.append_nil]; rfl
    rw [e2]
    exact Kd.arr_of_cells hl'
  · intro w2 hr2 hb2 hg2
    have hr3 : (Kd.arr n (Kd.int k) hs).R e w2 base ok (.slice (some ⟨g, 0, none⟩) 1 1) [l] := hr2
    exact h w2 (arr_row hr3 hn1) hb2 hg2
theorem R_alloc_fill (k : IntKind) {w0 : World} (base e : Nat) (hgd : o.guard = none) {N : Tmp} (hd : o.dst = some N) (hgd2 : o2.guard = none) (hN2 : o2.dst = none) (t : TypeId) (x : Operand) (ho2 : o2.op = .store t (.tmp N) x) (n : Nat) (hn1 : n ≤ 1000000)
    (l : List Int) (hl : ((l.length : Int) == (n : Int)) = true)
    (hx : ∀ p, (a.put (some N) p).eval x = .agg (l.map (Value.int k)).toArray) (hp : ∀ p, (a.put (some N) p).eval (.tmp N) = p) (ht : (P.info? t).map (·.size) = some n)
    (hrun : (execOp a.eval o).run P W = .ok (.value (.pointer (some ⟨W.heap.size, 0, none⟩))) (W.alloc (.cells (List.replicate n (Value.int k 0)).toArray e)))
    {ok : Nat → Prop} (hfresh : ok W.heap.size) (HB : Below base w0 W) (hbase : base ≤ W.heap.size)
    (h : ∀ g w1, (Kd.int k).R e w1 base ok (.slice (some ⟨g, 0, none⟩) n n) l → Below base w0 w1 → W.grownBy w1 none → W.heap.size ≤ g → wpList P ops Q rest (a.put o.dst (.pointer (some ⟨g, 0, none⟩))) w1) : wpList P ops Q (o :: o2 :: rest) a W := by
  have hl' : l.length = n := by have := beq_iff_eq.1 hl; omega
  have hs : 0 < (Kd.int k).sz := Nat.one_pos
  refine R_alloc (Kd.arr n (Kd.int k) hs) base e hgd hd (xs := [List.replicate n (0 : Int)]) (inner := List.replicate n (Value.int k 0)) (ok := ok) (okp := fun _ => False) hrun (arr_zeros k n hs W base _) (fun _ h => h.elim) hfresh HB hbase (by simp) ?_
  intro g w1 hr hb hg hge
  rw [hd]
  refine arr_store k base e hgd2 hN2 t (.tmp N) x ho2 n hn1 hs l _ hl' (hx _) (hp _) ht hr hb ?_
  intro w2 hr2 hb2 hg2
  have h0 := h g w2 hr2 hb2 ⟨hg2.os.trans hg.os, hg2.tape.trans hg.tape, hg2.output.trans hg.output, Nat.le_trans hg.size hg2.size, fun q hq hne => (hg2.block q (Nat.lt_of_lt_of_le hq hg.size) (fun e => by injection e with e; omega)).trans (hg.block q hq hne)⟩ hge
  rw [hd] at h0
  exact h0
end
end Go.Proofs.Ytpiakeejfggocab.Ext
