/- Contracts of this session's own: the table of SHA-256. -/
import Derived.Test.YtpiakeejfggocabProg
import Derived.Test.YtpiakeejfggocabExtF
import Derived.Below
import Derived.Tactics
import Derived.WalkKit
import Derived.KernelRfl
import Derived.RowKit3
import Derived.Deep.QuietTactic
import Derived.BigQuiet
import Derived.Test.YtpiakeejfggocabWMore
set_option linter.unusedVariables false
set_option linter.unusedSimpArgs false
namespace Go.Proofs.Ytpiakeejfggocab.Hand
open Go Go.RowKit Go.Proofs.YtpiakeejfggocabW.PrintWords Go.Proofs.YtpiakeejfggocabW.PrintLast Go.Proofs.YtpiakeejfggocabW.PrintMore
def K64 : List Int := [1116352408, 1899447441, 3049323471, 3921009573, 961987163, 1508970993, 2453635748, 2870763221, 3624381080, 310598401, 607225278, 1426881987, 1925078388, 2162078206, 2614888103, 3248222580, 3835390401, 4022224774, 264347078, 604807628, 770255983, 1249150122, 1555081692, 1996064986, 2554220882, 2821834349, 2952996808, 3210313671, 3336571891, 3584528711, 113926993, 338241895, 666307205, 773529912, 1294757372, 1396182291, 1695183700, 1986661051, 2177026350, 2456956037, 2730485921, 2820302411, 3259730800, 3345764771, 3516065817, 3600352804, 4094571909, 275423344, 430227734, 506948616, 659060556, 883997877, 958139571, 1322822218, 1537002063, 1747873779, 1955562222, 2024104815, 2227730452, 2361852424, 2428436474, 2756734187, 3204031479, 3329325298]
def hash_rounds.f : Option (List Int) := some K64
set_option maxHeartbeats 4000000 in
set_option maxRecDepth 100000 in
theorem hash_rounds.calls (r : List Int) (w : World) (h : hash_rounds.f = some r) :
    Calls Try.prog 28 #[] w fun e w' => e = .returned (.agg (r.map (Value.int .u32)).toArray) ∧ Below w.heap.size w w' := by
  obtain rfl := Option.some.inj h
  clear h
  have hu52 := Try.underlying52
  go_enter Try.func28, Try.ntmps28
  go_wp2_with (first
    | ((with_reducible refine gate_dst (N := 0) rfl ?_); refine Ext.R_alloc (Kd.arr 64 (Kd.int .u32) Nat.one_pos) _ 52 ?hg (N := 0) ?hd (xs := [List.replicate 64 (0 : Int)]) (inner := List.replicate 64 (Value.int .u32 0)) (ok := fun _ => True) (okp := fun _ => False) ?hr (Ext.arr_zeros _ _ _ _ _ _) (fun _ h => h.elim) trivial (Below.refl _ _) (Nat.le_refl _) (by simp) ?_; (case hd => rfl); (case hg => rfl); (case hr => first | kernel_rfl | (go_simp; done) | (go_simp; rfl)); intro g w1 hr hb hg hge)
    | ((with_reducible refine gate_store (t := 52) (p := 0) rfl ?_); refine Ext.arr_store .u32 _ 52 rfl rfl 52 _ _ rfl 64 (by decide) Nat.one_pos K64 _ rfl ?hx rfl ?ht hr hb ?_; (case hx => first | rfl | kernel_rfl); (case ht => first | rfl | kernel_rfl); intro w2 hr2 hb2 hg2))
  refine bodyPost_ret (results_cell_row rfl _ _ g 52 (K64.map (Value.int .u32)).toArray (0, 0) _ rfl (Ext.arr_block hr2 (by decide)) hu52 rfl (by kernel_rfl)) rfl ?_
  exact ⟨rfl, hb2⟩
end Go.Proofs.Ytpiakeejfggocab.Hand
