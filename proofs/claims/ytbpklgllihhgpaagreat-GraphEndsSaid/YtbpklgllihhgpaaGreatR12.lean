import Derived.KernelRfl
import Derived.Test.YtbpklgllihhgpaaGreatR09
set_option maxRecDepth 100000
set_option maxHeartbeats 16000000
namespace Go.Proofs.YtbpklgllihhgpaaGreat
open Go.Den
theorem clean_run:ranTile (evCall Tryz.prog X0 4000 40 204 #[.agg ⟨tileL⟩] ⟨.e,0⟩)=true:=by kernel_rfl
theorem sanity_run:ranTrue (evCall Tryz.prog X1 4000 60 8 #[] ⟨.e,0⟩)=true:=by kernel_rfl
end Go.Proofs.YtbpklgllihhgpaaGreat
