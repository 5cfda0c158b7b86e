/- A world that stands some plain steps (draws, new blocks) behind another one keeps its blocks: found by the steps' shape. No condition. -/
import Derived.Test.YtmjkkkllmpagpaaWMore
namespace Go.Proofs.YtmjkkkllmpagpaaW.PrintWords
open Go.RowKit
class Later (W W' : World) : Prop where
  out : ∀ {g : Nat} {o : Obj}, W.heap[g]? = some o → W'.heap[g]? = some o
instance later_refl (W : World) : Later W W := ⟨fun h => h⟩
instance later_drewN (W W' : World) (n : Nat) [h : Later W W'] : Later W (W'.drewN n) := ⟨fun k => blk_drewN (h.out k) n⟩
instance later_drew (W W' : World) [h : Later W W'] : Later W W'.drew := ⟨fun k => blk_drew (h.out k)⟩
instance later_alloc (W W' : World) (o : Obj) [h : Later W W'] : Later W (W'.alloc o) := ⟨fun k => blk_alloc (h.out k) o⟩
theorem blk_l {W W' : World} [h : Later W W'] {g : Nat} {o : Obj} (k : W.heap[g]? = some o) : W'.heap[g]? = some o := h.out k
end Go.Proofs.YtmjkkkllmpagpaaW.PrintWords
