import Derived.KernelRfl
import Derived.Test.YtbpklgllihhgpaaGreatA09
set_option maxRecDepth 100000
set_option maxHeartbeats 16000000
namespace Go.Proofs.YtbpklgllihhgpaaGreat
open Go.Den
theorem Oy:EF (kC Tryz.prog X0 4000 40 204 #[.agg ⟨DX⟩] ⟨.e,0⟩)=true:=by kernel_rfl
theorem Jp:tV (kC Tryz.prog X1 4000 60 8 #[] ⟨.e,0⟩)=true:=by kernel_rfl
end Go.Proofs.YtbpklgllihhgpaaGreat
