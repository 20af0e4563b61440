
/- The program's data in plain Lean, and as abstract values. -/
import Derived.Test.YtianonghhmiooaaWk
namespace Go.Proofs.Ytianonghhmiooaa
namespace Av
set_option linter.unusedSimpArgs false
set_option linter.unusedVariables false
def iA (n : Int) : AV := .s (.int .i64 n)
def yA (n : Int) : AV := .s (.int .u8 n)
def bA (b : Bool) : AV := .s (.bool b)
def slA {α : Type} (f : α → AV) (l : List α) : AV := .sl false (l.map f)
structure Cl where
  ag : Int
  id : Int
  ph : Int
  k : Int
  si : Int
structure Sv where
  ph : Int
  gr : Int
  en : List Int
structure Ph where
  ring : Int
  group : Int
  ming : Int
  maxg : Int
  yel : Int
  red : Int
  walk : Int
  clear : Int
structure Jn where
  ph : List Ph
  cf : List Int
  st : Int
structure Ag where
  sec : List Int
  rights : Int
  cls : Int
  lim : List Int
  req : Int
  ses : Int
  rate : Int
  burst : Int
structure Cf where
  js : List Jn
  ags : List Ag
  per : Int
  cap : Int
  hold : Int
  lock : Int
structure Tk where
  used : Bool
  sec : List Int
  par : Int
  rights : Int
  cls : Int
  til : Int
structure Vh where
  id : Int
  cls : Int
structure Bk where
  level : Int
  rate : Int
  burst : Int
structure Rg where
  num : Int
  ag : Ag
  tk : List Tk
  vh : List Vh
  bk : Bk
structure Ms where
  kind : Int
  tok : List Int
  args : List Int
  data : List Int
def clA (c : Cl) : AV := .agg [iA c.ag, iA c.id, iA c.ph, iA c.k, iA c.si]
def svA (s : Sv) : AV := .agg [iA s.ph, iA s.gr, slA iA s.en]
def phA (p : Ph) : AV := .agg [iA p.ring, iA p.group, iA p.ming, iA p.maxg, iA p.yel, iA p.red, iA p.walk, iA p.clear]
def jnA (j : Jn) : AV := .agg [slA phA j.ph, slA iA j.cf, iA j.st]
def agA (a : Ag) : AV := .agg [slA yA a.sec, iA a.rights, iA a.cls, slA iA a.lim, iA a.req, iA a.ses, iA a.rate, iA a.burst]
def cfA (c : Cf) : AV := .agg [slA jnA c.js, slA agA c.ags, iA c.per, iA c.cap, iA c.hold, iA c.lock]
def tkA (t : Tk) : AV := .agg [bA t.used, slA yA t.sec, iA t.par, iA t.rights, iA t.cls, iA t.til]
def vhA (v : Vh) : AV := .agg [iA v.id, iA v.cls]
def bkA (b : Bk) : AV := .agg [iA b.level, iA b.rate, iA b.burst]
def rgA (r : Rg) : AV := .agg [iA r.num, slA yA r.ag.sec, iA r.ag.rights, iA r.ag.cls, slA iA r.ag.lim, iA r.ag.req, iA r.ag.ses, iA r.ag.rate, iA r.ag.burst, slA tkA r.tk, slA vhA r.vh, iA r.bk.level, iA r.bk.rate, iA r.bk.burst]
def msA (m : Ms) : AV := .agg [iA m.kind, slA yA m.tok, slA iA m.args, slA yA m.data]
instance : Inhabited Tk := ⟨⟨false, [], -1, 0, 0, 0⟩⟩
instance : Inhabited Vh := ⟨⟨0, 0⟩⟩
instance : Inhabited Cl := ⟨⟨0, 0, 0, 0, 0⟩⟩
instance : Inhabited Ph := ⟨⟨0, 0, 0, 0, 0, 0, 0, 0⟩⟩
instance : Inhabited Jn := ⟨⟨[], [], 0⟩⟩
instance : Inhabited Ag := ⟨⟨[], 0, 0, [], 0, 0, 0, 0⟩⟩
theorem fin_bool {TT : List TI} {rs : List ResultVar} {h0 h1 : List (Nat × Ent)} {e : Exit} {st : St} {b b' : Bool} (h : Fin TT rs h0 (bA b') h1 e st) (hb : b' = b) : Fin TT rs h0 (bA b) h1 e st := hb ▸ h
theorem fin_int {TT : List TI} {rs : List ResultVar} {h0 h1 : List (Nat × Ent)} {e : Exit} {st : St} {b b' : Int} (h : Fin TT rs h0 (iA b') h1 e st) (hb : b' = b) : Fin TT rs h0 (iA b) h1 e st := hb ▸ h
/-- An element of a list. -/
theorem map_at {α : Type} [Inhabited α] (f : α → AV) (l : List α) (i : Nat) (h : i < l.length) : (l.map f)[i]? = some (f (l.getD i default)) := by simp [List.getD, h]
theorem map_atI {α : Type} [Inhabited α] (f : α → AV) (l : List α) (i : Int) (h0 : 0 ≤ i) (h : i < l.length) : (l.map f)[i.toNat]? = some (f (l.getD i.toNat default)) := map_at f l _ (by omega)
end Av
end Go.Proofs.Ytianonghhmiooaa
