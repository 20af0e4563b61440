/- Registries that a law is handed. -/
import Derived.Test.YtjbldhhgooihfaaRepr
import Derived.Test.YtjbldhhgooihfaaAvu
namespace Go.Proofs.Ytjbldhhgooihfaa
namespace Av
set_option linter.unusedSimpArgs false
set_option linter.unusedVariables false
section
variable {H : Type} {eh : TypeId × Value → H} {w : World}
theorem reads_i : Reads eh Try.prog w 3 (fun n : Int => [.s (.int .i64 n)]) (fun n => (Lit.int .i64 n).wf = true) := reads_int Try.underlying3
theorem reads_ys : Reads eh Try.prog w 23 (fun l : List Int => [slA yA l]) (fun _ => True) :=
  (reads_slice (sz := 1) Try.underlying23 false (reads_int (k := .u8) Try.underlying5) (by kernel_rfl) rfl (fun x _ => ⟨_, rfl, rfl⟩)).map id (fun _ => rfl) (fun _ _ => trivial)
theorem reads_is : Reads eh Try.prog w 22 (fun l : List Int => [slA iA l]) (fun _ => True) :=
  (reads_slice (sz := 1) Try.underlying22 false (reads_int Try.underlying3) (by kernel_rfl) rfl (fun x _ => ⟨_, rfl, rfl⟩)).map id (fun _ => rfl) (fun _ _ => trivial)
def agE (a : Ag) : List AV := [slA yA a.sec, iA a.rights, iA a.cls, slA iA a.lim, iA a.req, iA a.ses, iA a.rate, iA a.burst]
theorem reads_ag : Reads eh Try.prog w 28 agE (fun _ => True) :=
  (reads_struct Try.underlying28 (by kernel_rfl) (.cons 1 reads_ys rfl (by kernel_rfl) (fun _ => rfl) (.cons 1 reads_i rfl (by kernel_rfl) (fun _ => rfl) (.cons 1 reads_i rfl (by kernel_rfl) (fun _ => rfl) (.cons 1 reads_is rfl (by kernel_rfl) (fun _ => rfl)
    (.cons 1 reads_i rfl (by kernel_rfl) (fun _ => rfl) (.cons 1 reads_i rfl (by kernel_rfl) (fun _ => rfl) (.cons 1 reads_i rfl (by kernel_rfl) (fun _ => rfl) (.cons 1 reads_i rfl (by kernel_rfl) (fun _ => rfl) (.nil 8)))))))))).map
    (fun p => ⟨p.1, p.2.1, p.2.2.1, p.2.2.2.1, p.2.2.2.2.1, p.2.2.2.2.2.1, p.2.2.2.2.2.2.1, p.2.2.2.2.2.2.2.1⟩) (fun _ => rfl) (fun _ _ => trivial)
def tkE (t : Tk) : List AV := [bA t.used, slA yA t.sec, iA t.par, iA t.rights, iA t.cls, iA t.til]
theorem reads_tk : Reads eh Try.prog w 45 tkE (fun _ => True) :=
  (reads_struct Try.underlying45 (by kernel_rfl) (.cons 1 (reads_bool Try.underlying4) rfl (by kernel_rfl) (fun _ => rfl) (.cons 1 reads_ys rfl (by kernel_rfl) (fun _ => rfl) (.cons 1 reads_i rfl (by kernel_rfl) (fun _ => rfl) (.cons 1 reads_i rfl (by kernel_rfl) (fun _ => rfl)
    (.cons 1 reads_i rfl (by kernel_rfl) (fun _ => rfl) (.cons 1 reads_i rfl (by kernel_rfl) (fun _ => rfl) (.nil 6)))))))).map
    (fun p => ⟨p.1, p.2.1, p.2.2.1, p.2.2.2.1, p.2.2.2.2.1, p.2.2.2.2.2.1⟩) (fun _ => rfl) (fun _ _ => trivial)
theorem reads_tks : Reads eh Try.prog w 29 (fun l : List Tk => [slA tkA l]) (fun _ => True) :=
  (reads_slice (sz := 6) Try.underlying29 true reads_tk (by kernel_rfl) rfl (fun x h => by cases h)).map id (fun _ => rfl) (fun _ _ => trivial)
def vhE (v : Vh) : List AV := [iA v.id, iA v.cls]
theorem reads_vh : Reads eh Try.prog w 103 vhE (fun _ => True) :=
  (reads_struct Try.underlying103 (by kernel_rfl) (.cons 1 reads_i rfl (by kernel_rfl) (fun _ => rfl) (.cons 1 reads_i rfl (by kernel_rfl) (fun _ => rfl) (.nil 2)))).map (fun p => ⟨p.1, p.2.1⟩) (fun _ => rfl) (fun _ _ => trivial)
theorem reads_vhs : Reads eh Try.prog w 30 (fun l : List Vh => [slA vhA l]) (fun _ => True) :=
  (reads_slice (sz := 2) Try.underlying30 true reads_vh (by kernel_rfl) rfl (fun x h => by cases h)).map id (fun _ => rfl) (fun _ _ => trivial)
def bkE (b : Bk) : List AV := [iA b.level, iA b.rate, iA b.burst]
theorem reads_bk : Reads eh Try.prog w 32 bkE (fun _ => True) :=
  (reads_struct Try.underlying32 (by kernel_rfl) (.cons 1 reads_i rfl (by kernel_rfl) (fun _ => rfl) (.cons 1 reads_i rfl (by kernel_rfl) (fun _ => rfl) (.cons 1 reads_i rfl (by kernel_rfl) (fun _ => rfl) (.nil 3))))).map (fun p => ⟨p.1, p.2.1, p.2.2.1⟩) (fun _ => rfl) (fun _ _ => trivial)
def rgE (r : Rg) : List AV := [iA r.num] ++ (agE r.ag ++ ([slA tkA r.tk] ++ ([slA vhA r.vh] ++ (bkE r.bk ++ []))))
theorem reads_rg : Reads eh Try.prog w 34 rgE (fun _ => True) :=
  (reads_struct Try.underlying34 (by kernel_rfl) (.cons 1 reads_i rfl (by kernel_rfl) (fun _ => rfl) (.cons 8 reads_ag rfl (by kernel_rfl) (fun _ => rfl) (.cons 1 reads_tks rfl (by kernel_rfl) (fun _ => rfl) (.cons 1 reads_vhs rfl (by kernel_rfl) (fun _ => rfl) (.cons 3 reads_bk rfl (by kernel_rfl) (fun _ => rfl) (.nil 14))))))).map (fun p => ⟨p.1, p.2.1, p.2.2.1, p.2.2.2.1, p.2.2.2.2.1⟩) (fun _ => rfl) (fun _ _ => trivial)
theorem rgE_A (r : Rg) : AV.agg (rgE r) = rgA r := rfl
end
end Av
end Go.Proofs.Ytjbldhhgooihfaa
