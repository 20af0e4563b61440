
/- Registries that a law is handed. -/
import Derived.Test.YtjbldhhgooihfaaGreatRepr
import Derived.Test.YtjbldhhgooihfaaGreatAvu
namespace Go.Proofs.YtjbldhhgooihfaaGreat
namespace Av
set_option linter.unusedSimpArgs false
set_option linter.unusedVariables false
section
variable {H : Type} {eh : TypeId × Value → H} {w : World}
theorem reads_i : Reads eh Tryz.prog w 3 (fun n : Int => [.s (.int .i64 n)]) (fun n => (Lit.int .i64 n).wf = true) := reads_int Tryz.underlying3
theorem reads_ys : Reads eh Tryz.prog w 22 (fun l : List Int => [slA yA l]) (fun _ => True) :=
  (reads_slice (sz := 1) Tryz.underlying22 false (reads_int (k := .u8) Tryz.underlying5) (by kernel_rfl) rfl (fun x _ => ⟨_, rfl, rfl⟩)).map id (fun _ => rfl) (fun _ _ => trivial)
theorem reads_is : Reads eh Tryz.prog w 23 (fun l : List Int => [slA iA l]) (fun _ => True) :=
  (reads_slice (sz := 1) Tryz.underlying23 false (reads_int Tryz.underlying3) (by kernel_rfl) rfl (fun x _ => ⟨_, rfl, rfl⟩)).map id (fun _ => rfl) (fun _ _ => trivial)
def agE (a : Ag) : List AV := [slA yA a.sec, iA a.rights, iA a.cls, slA iA a.lim, iA a.req, iA a.ses, iA a.rate, iA a.burst]
theorem reads_ag : Reads eh Tryz.prog w 25 agE (fun _ => True) :=
  (reads_struct Tryz.underlying25 (by kernel_rfl) (.cons 1 reads_ys rfl (by kernel_rfl) (fun _ => rfl) (.cons 1 reads_i rfl (by kernel_rfl) (fun _ => rfl) (.cons 1 reads_i rfl (by kernel_rfl) (fun _ => rfl) (.cons 1 reads_is rfl (by kernel_rfl) (fun _ => rfl)
    (.cons 1 reads_i rfl (by kernel_rfl) (fun _ => rfl) (.cons 1 reads_i rfl (by kernel_rfl) (fun _ => rfl) (.cons 1 reads_i rfl (by kernel_rfl) (fun _ => rfl) (.cons 1 reads_i rfl (by kernel_rfl) (fun _ => rfl) (.nil 8)))))))))).map
    (fun p => ⟨p.1, p.2.1, p.2.2.1, p.2.2.2.1, p.2.2.2.2.1, p.2.2.2.2.2.1, p.2.2.2.2.2.2.1, p.2.2.2.2.2.2.2.1⟩) (fun _ => rfl) (fun _ _ => trivial)
def tkE (t : Tk) : List AV := [bA t.used, slA yA t.sec, iA t.par, iA t.rights, iA t.cls, iA t.til]
theorem reads_tk : Reads eh Tryz.prog w 70 tkE (fun _ => True) :=
  (reads_struct Tryz.underlying70 (by kernel_rfl) (.cons 1 (reads_bool Tryz.underlying4) rfl (by kernel_rfl) (fun _ => rfl) (.cons 1 reads_ys rfl (by kernel_rfl) (fun _ => rfl) (.cons 1 reads_i rfl (by kernel_rfl) (fun _ => rfl) (.cons 1 reads_i rfl (by kernel_rfl) (fun _ => rfl)
    (.cons 1 reads_i rfl (by kernel_rfl) (fun _ => rfl) (.cons 1 reads_i rfl (by kernel_rfl) (fun _ => rfl) (.nil 6)))))))).map
    (fun p => ⟨p.1, p.2.1, p.2.2.1, p.2.2.2.1, p.2.2.2.2.1, p.2.2.2.2.2.1⟩) (fun _ => rfl) (fun _ _ => trivial)
theorem reads_tks : Reads eh Tryz.prog w 26 (fun l : List Tk => [slA tkA l]) (fun _ => True) :=
  (reads_slice (sz := 6) Tryz.underlying26 true reads_tk (by kernel_rfl) rfl (fun x h => by cases h)).map id (fun _ => rfl) (fun _ _ => trivial)
def vhE (v : Vh) : List AV := [iA v.id, iA v.cls]
theorem reads_vh : Reads eh Tryz.prog w 90 vhE (fun _ => True) :=
  (reads_struct Tryz.underlying90 (by kernel_rfl) (.cons 1 reads_i rfl (by kernel_rfl) (fun _ => rfl) (.cons 1 reads_i rfl (by kernel_rfl) (fun _ => rfl) (.nil 2)))).map (fun p => ⟨p.1, p.2.1⟩) (fun _ => rfl) (fun _ _ => trivial)
theorem reads_vhs : Reads eh Tryz.prog w 27 (fun l : List Vh => [slA vhA l]) (fun _ => True) :=
  (reads_slice (sz := 2) Tryz.underlying27 true reads_vh (by kernel_rfl) rfl (fun x h => by cases h)).map id (fun _ => rfl) (fun _ _ => trivial)
def bkE (b : Bk) : List AV := [iA b.level, iA b.rate, iA b.burst]
theorem reads_bk : Reads eh Tryz.prog w 29 bkE (fun _ => True) :=
  (reads_struct Tryz.underlying29 (by kernel_rfl) (.cons 1 reads_i rfl (by kernel_rfl) (fun _ => rfl) (.cons 1 reads_i rfl (by kernel_rfl) (fun _ => rfl) (.cons 1 reads_i rfl (by kernel_rfl) (fun _ => rfl) (.nil 3))))).map (fun p => ⟨p.1, p.2.1, p.2.2.1⟩) (fun _ => rfl) (fun _ _ => trivial)
def rgE (r : Rg) : List AV := [iA r.num] ++ (agE r.ag ++ ([slA tkA r.tk] ++ ([slA vhA r.vh] ++ (bkE r.bk ++ []))))
theorem reads_rg : Reads eh Tryz.prog w 31 rgE (fun _ => True) :=
  (reads_struct Tryz.underlying31 (by kernel_rfl) (.cons 1 reads_i rfl (by kernel_rfl) (fun _ => rfl) (.cons 8 reads_ag rfl (by kernel_rfl) (fun _ => rfl) (.cons 1 reads_tks rfl (by kernel_rfl) (fun _ => rfl) (.cons 1 reads_vhs rfl (by kernel_rfl) (fun _ => rfl) (.cons 3 reads_bk rfl (by kernel_rfl) (fun _ => rfl) (.nil 14))))))).map (fun p => ⟨p.1, p.2.1, p.2.2.1, p.2.2.2.1, p.2.2.2.2.1⟩) (fun _ => rfl) (fun _ _ => trivial)
theorem rgE_A (r : Rg) : AV.agg (rgE r) = rgA r := rfl
end
end Av
end Go.Proofs.YtjbldhhgooihfaaGreat
