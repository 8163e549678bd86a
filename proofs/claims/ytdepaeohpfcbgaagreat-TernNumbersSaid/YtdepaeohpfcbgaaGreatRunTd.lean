/- The runs of remembered calls, by the kernel (no condition). -/
import Derived.Test.YtdepaeohpfcbgaaGreatMemoT
import Derived.KernelRfl
namespace Go.Proofs.YtdepaeohpfcbgaaGreat
open Go.Eng
set_option maxRecDepth 100000
theorem insBT0 : iiT0.showsB lg (ev SIT0 iiT0.g (.sl iiT0.b 0 iiT0.len iiT0.len :: iiT0.xs) (iiT0.HB lg)) = true := by kernel_rfl
theorem insAT0 (k : Nat) : iiT0.showsA (ev SIT0 iiT0.g (.sl iiT0.b 0 iiT0.len (k + (iiT0.len + 1)) :: iiT0.xs) (iiT0.HA lg)) = true := by kernel_rfl
theorem insRT0 (k : Nat) : (ev SIT0 iiT0.g (.sl iiT0.b 0 iiT0.len (k + (iiT0.len + 1)) :: iiT0.xs) (iiT0.HA lg)).map (·.1) = some (.ret (.sl iiT0.b 0 iiT0.n2 (k + (iiT0.len + 1)))) := by kernel_rfl
theorem runT3 : mmT3.shows lg (ev SST3 mmT3.g mmT3.xs ⟨hOf mmT3.l0 .leaf, mmT3.N, gOf lg⟩) = true := by kernel_rfl
theorem runT4 : mmT4.shows lg (ev SST4 mmT4.g mmT4.xs ⟨hOf mmT4.l0 .leaf, mmT4.N, gOf lg⟩) = true := by kernel_rfl
end Go.Proofs.YtdepaeohpfcbgaaGreat
