/- The runs of remembered calls, by the kernel (no condition). -/
import Derived.Test.YtdepaeohpfcbgaaGreatMemoB
import Derived.KernelRfl
namespace Go.Proofs.YtdepaeohpfcbgaaGreat
open Go.Eng
set_option maxRecDepth 100000
theorem insBB0 : iiB0.showsB lg = true := by kernel_rfl
theorem insAB0 (k : Nat) : iiB0.showsA (ev SIB0 iiB0.g (.sl iiB0.b 0 iiB0.len (k + iiB0.len) :: iiB0.xs) (iiB0.HB lg)) = true := by kernel_rfl
theorem insRB0 (k : Nat) : (ev SIB0 iiB0.g (.sl iiB0.b 0 iiB0.len (k + iiB0.len) :: iiB0.xs) (iiB0.HB lg)).map (·.1) = some (.ret (.sl iiB0.b 0 iiB0.n2 (k + iiB0.len))) := by kernel_rfl
theorem runB0 : mmB0.shows lg (ev SSB0 mmB0.g mmB0.xs ⟨hOf mmB0.l0 .leaf, mmB0.N, gOf lg⟩) = true := by kernel_rfl
theorem runB5 : mmB5.shows lg (ev SSB5 mmB5.g mmB5.xs ⟨hOf mmB5.l0 .leaf, mmB5.N, gOf lg⟩) = true := by kernel_rfl
theorem runB7 : mmB7.shows lg (ev SSB7 mmB7.g mmB7.xs ⟨hOf mmB7.l0 .leaf, mmB7.N, gOf lg⟩) = true := by kernel_rfl
theorem runB12 : mmB12.shows lg (ev SSB12 mmB12.g mmB12.xs ⟨hOf mmB12.l0 .leaf, mmB12.N, gOf lg⟩) = true := by kernel_rfl
theorem runB16 : mmB16.shows lg (ev SSB16 mmB16.g mmB16.xs ⟨hOf mmB16.l0 .leaf, mmB16.N, gOf lg⟩) = true := by kernel_rfl
theorem runB20 : mmB20.shows lg (ev SSB20 mmB20.g mmB20.xs ⟨hOf mmB20.l0 .leaf, mmB20.N, gOf lg⟩) = true := by kernel_rfl
end Go.Proofs.YtdepaeohpfcbgaaGreat
