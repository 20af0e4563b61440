/- A service that a law is handed. -/
import Derived.Test.YtlabfbpnkjigoaaRepr
import Derived.Test.YtlabfbpnkjigoaaAvu
namespace Go.Proofs.Ytlabfbpnkjigoaa
namespace Av
set_option linter.unusedSimpArgs false
set_option linter.unusedVariables false
def svE (s : Sv) : List AV := [iA s.ph, iA s.gr, slA iA s.en]
theorem reads_sv {H : Type} {eh : TypeId × Value → H} {w : World} : Reads eh Try.prog w 46 svE (fun s => s.en.length ≤ 9223372036854775807) :=
  (reads_struct Try.underlying46 (by kernel_rfl) (.cons 1 (reads_int Try.underlying3) rfl (by kernel_rfl) (fun _ => rfl) (.cons 1 (reads_int Try.underlying3) rfl (by kernel_rfl) (fun _ => rfl)
    (.cons 1 (reads_slice (sz := 1) Try.underlying22 false (reads_int Try.underlying3) (by kernel_rfl) rfl (fun x _ => ⟨_, rfl, rfl⟩)) rfl (by kernel_rfl) (fun _ => rfl) (.nil 3))))).map (fun p => ⟨p.1, p.2.1, p.2.2.1⟩) (fun a => rfl) (fun a h => h.2.2.1.1)
end Av
end Go.Proofs.Ytlabfbpnkjigoaa
