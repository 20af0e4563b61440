/- Library: abstract values. -/
import Derived.Test.YtianonghhmiooaaRepr
import Derived.Test.YtianonghhmiooaaWg
import Derived.Test.YtianonghhmiooaaMk
import Derived.Test.YtianonghhmiooaaAvq
/- rank: what its functions compute. -/
namespace Go.Proofs.Ytianonghhmiooaa
namespace Av
set_option linter.unusedSimpArgs false
set_option linter.unusedVariables false
set_option maxRecDepth 4000
def endF (es : List Int) (ph : Int) : Int := if ph < 0 ∨ (es.length : Int) ≤ ph then -1 else es.getD ph.toNat 0
def emF (k : Int) : Bool := k == 2 || k == 3
def staF (es : List Int) (ph si : Int) : Int := max si (endF es ph)
end Av
end Go.Proofs.Ytianonghhmiooaa
/- rank: Level, Locked, Less. -/
namespace Go.Proofs.Ytianonghhmiooaa
namespace Av
set_option linter.unusedSimpArgs false
set_option linter.unusedVariables false
set_option maxRecDepth 4000
theorem tdiv_exact (n d : Int) (hd : 1 ≤ d) (hm : n.tmod d = 0) : n.tdiv d = n / d := by
  have h1 := Int.tmod_add_mul_tdiv n d
  rw [hm] at h1
  have h2 : n = d * n.tdiv d := by omega
  exact (Int.ediv_eq_of_eq_mul_right (by omega) h2).symm
theorem tdiv_inexact (n d : Int) (hn : n < 0) (hd : 1 ≤ d) (hm : n.tmod d ≠ 0) : n.tdiv d - 1 = n / d := by
  have h1 := Int.tmod_add_mul_tdiv n d
  have h0 : n.tmod d = -((-n).tmod d) := by rw [Int.neg_tmod]; omega
  have h3 : -d < n.tmod d := by
    have := Int.tmod_lt_of_pos (-n) (show 0 < d by omega)
    omega
  have h4 : n.tmod d ≤ 0 := by
    have := Int.tmod_nonneg d (show 0 ≤ -n by omega)
    omega
  clear h0
  have h5 : n = d * (n.tdiv d - 1) + (n.tmod d + d) := by rw [Int.mul_sub]; omega
  generalize n.tdiv d = q at *
  generalize n.tmod d = r at *
  have h6 : n / d = q - 1 := by
    rw [h5, Int.mul_add_ediv_left _ _ (by omega), Int.ediv_eq_zero_of_lt (by omega) (by omega)]
    omega
  omega
theorem tdiv_bd (n d : Int) (hd : 1 ≤ d) (h1 : -4611686018427387904 ≤ n) (h2 : n ≤ 4611686018427387904) : -4611686018427387904 ≤ n.tdiv d ∧ n.tdiv d ≤ 4611686018427387904 := by
  by_cases h : 0 ≤ n
  · have := IntWalk.tdiv_le n d h hd
    rw [Int.tdiv_eq_ediv_of_nonneg h]; omega
  · have h3 : n.tdiv d = -((-n).tdiv d) := by rw [Int.neg_tdiv]; omega
    have := IntWalk.tdiv_le (-n) d (by omega) hd
    rw [h3, Int.tdiv_eq_ediv_of_nonneg (by omega)]; omega
def levF (per cap : Int) (es : List Int) (now ph k si : Int) : Int := min cap (k + (now - staF es ph si) / per)
/-- The numbers of a claim keep their bounds. -/
structure COk (per now : Int) (es : List Int) (c : Cl) : Prop where
  p : 1 ≤ per
  k0 : -1000 ≤ c.k
  k1 : c.k ≤ 1000
  n0 : -1099511627776 ≤ now
  n1 : now ≤ 1099511627776
  s0 : -1099511627776 ≤ staF es c.ph c.si
  s1 : staF es c.ph c.si ≤ 1099511627776
  e0 : -1099511627776 ≤ endF es c.ph
  e1 : endF es c.ph ≤ 1099511627776
theorem div_bd (n d : Int) (hd : 1 ≤ d) (h1 : -4611686018427387904 ≤ n) (h2 : n ≤ 4611686018427387904) : -4611686018427387904 ≤ n / d ∧ n / d ≤ 4611686018427387904 := by
  constructor
  · refine (Int.le_ediv_iff_mul_le (by omega)).2 ?_
    have : (4611686018427387904 : Int) * 1 ≤ 4611686018427387904 * d := Int.mul_le_mul_of_nonneg_left hd (by omega)
    omega
  · have : n / d ≤ 4611686018427387904 / 1 := by
      rw [Int.ediv_one]
      refine Int.le_of_lt_add_one ((Int.ediv_lt_iff_lt_mul (by omega)).2 ?_)
      have : (4611686018427387904 + 1 : Int) * 1 ≤ (4611686018427387904 + 1) * d := Int.mul_le_mul_of_nonneg_left hd (by omega)
      omega
    omega
def lckF (lock : Int) (es : List Int) (now ph k : Int) : Bool := !emF k && (endF es ph != -1 && decide (now - endF es ph ≤ lock))
end Av
end Go.Proofs.Ytianonghhmiooaa
/- rank: Less. -/
namespace Go.Proofs.Ytianonghhmiooaa
namespace Av
set_option linter.unusedSimpArgs false
set_option linter.unusedVariables false
set_option maxRecDepth 4000
set_option maxHeartbeats 1000000
def amtF (per cap : Int) (es : List Int) (now : Int) (x : Cl) : Int := if emF x.k then x.k else levF per cap es now x.ph x.k x.si
def lessF (per cap : Int) (es : List Int) (now : Int) (x y : Cl) : Bool :=
  if emF x.k ≠ emF y.k then emF x.k
  else if amtF per cap es now x ≠ amtF per cap es now y then decide (amtF per cap es now y < amtF per cap es now x)
  else if staF es x.ph x.si ≠ staF es y.ph y.si then decide (staF es x.ph x.si < staF es y.ph y.si)
  else if x.ag ≠ y.ag then decide (x.ag < y.ag) else decide (x.id < y.id)
end Av
end Go.Proofs.Ytianonghhmiooaa
/- rank: Best. -/
namespace Go.Proofs.Ytianonghhmiooaa
namespace Av
set_option linter.unusedSimpArgs false
set_option linter.unusedVariables false
set_option maxRecDepth 4000
set_option maxHeartbeats 1000000
def bestN (g : Cf) (s : Sv) (now : Int) (xs : List Cl) : Nat → Int
  | 0 => -1
  | i + 1 => if lckF g.lock s.en now (xs.getD i default).ph (xs.getD i default).k then bestN g s now xs i
    else if bestN g s now xs i < 0 then i
    else if lessF g.per g.cap s.en now (xs.getD i default) (xs.getD (bestN g s now xs i).toNat default) then i else bestN g s now xs i
theorem bestN_bd (g : Cf) (s : Sv) (now : Int) (xs : List Cl) : ∀ i, -1 ≤ bestN g s now xs i ∧ bestN g s now xs i < i ∨ bestN g s now xs i = -1
  | 0 => .inr rfl
  | i + 1 => by
    have := bestN_bd g s now xs i
    unfold bestN
    split
    · omega
    · split
      · omega
      · split <;> omega
theorem bestN_succ (g : Cf) (s : Sv) (now : Int) (xs : List Cl) (i : Nat) : bestN g s now xs (i + 1) = if lckF g.lock s.en now (xs.getD i default).ph (xs.getD i default).k = true then bestN g s now xs i
    else if bestN g s now xs i < 0 then (i : Int)
    else if lessF g.per g.cap s.en now (xs.getD i default) (xs.getD (bestN g s now xs i).toNat default) = true then (i : Int) else bestN g s now xs i := rfl
end Av
end Go.Proofs.Ytianonghhmiooaa
/- ref20: what its functions compute. -/
namespace Go.Proofs.Ytianonghhmiooaa
namespace Av
set_option linter.unusedSimpArgs false
set_option linter.unusedVariables false
set_option maxRecDepth 4000
set_option maxHeartbeats 1000000
structure Key where
  x0 : Int
  x1 : Int
  x2 : Int
  x3 : Int
  x4 : Int
def kyA (k : Key) : AV := .agg [iA k.x0, iA k.x1, iA k.x2, iA k.x3, iA k.x4]
def keyF (per cap : Int) (es : List Int) (now : Int) (c : Cl) : Key := if emF c.k = true then ⟨0, -c.k, staF es c.ph c.si, c.ag, c.id⟩ else ⟨1, -levF per cap es now c.ph c.k c.si, staF es c.ph c.si, c.ag, c.id⟩
def lexF (x y : Key) : Bool := if x.x0 ≠ y.x0 then decide (x.x0 < y.x0) else if x.x1 ≠ y.x1 then decide (x.x1 < y.x1) else if x.x2 ≠ y.x2 then decide (x.x2 < y.x2) else if x.x3 ≠ y.x3 then decide (x.x3 < y.x3) else if x.x4 ≠ y.x4 then decide (x.x4 < y.x4) else false
theorem lex_less (per cap : Int) (es : List Int) (now : Int) (x y : Cl) : lexF (keyF per cap es now x) (keyF per cap es now y) = lessF per cap es now x y := by
  have neg : ∀ a b : Int, decide (-a < -b) = decide (b < a) := fun a b => by
    by_cases h : b < a
    · rw [decide_eq_true h, decide_eq_true (by omega)]
    · rw [decide_eq_false h, decide_eq_false (by omega)]
  have neg2 : ∀ a b : Int, (-a ≠ -b) = (a ≠ b) := fun a b => propext (by omega)
  unfold lexF lessF keyF amtF
  generalize levF per cap es now x.ph x.k x.si = lx
  generalize levF per cap es now y.ph y.k y.si = ly
  generalize staF es x.ph x.si = sx
  generalize staF es y.ph y.si = sy
  cases hx : emF x.k <;> cases hy : emF y.k <;> simp only [neg, neg2, if_true, if_false, reduceIte, reduceCtorEq]
  · by_cases h1 : lx = ly <;> by_cases h2 : sx = sy <;> by_cases h3 : x.ag = y.ag <;> by_cases h4 : x.id = y.id <;> simp [h1, h2, h3, h4]
  · simp
  · simp
  · by_cases h1 : x.k = y.k <;> by_cases h2 : sx = sy <;> by_cases h3 : x.ag = y.ag <;> by_cases h4 : x.id = y.id <;> simp [h1, h2, h3, h4]
end Av
end Go.Proofs.Ytianonghhmiooaa
/- make: Service, Claims; law20: setting. -/
namespace Go.Proofs.Ytianonghhmiooaa
namespace Av
set_option linter.unusedSimpArgs false
set_option linter.unusedVariables false
set_option maxRecDepth 4000
set_option maxHeartbeats 1000000
def e1 (d : Dk) (now : Int) : Int := [-1, 0, max (-1) (now - nx d 6)].getD (nx (ad d) 3).toNat 0
def svL (now : Int) (d : Dk) : Nat → List Int × Dk
  | 0 => ([], d)
  | i + 1 => ((svL now d i).1 ++ [e1 (svL now d i).2 now], ad (ad (svL now d i).2))
def svF (d : Dk) (n : Nat) (now : Int) : Sv := if nx (svL now d n).2 2 = 0 then ⟨nx (ad (svL now d n).2) n, nx (ad (ad (svL now d n).2)) 4, (svL now d n).1⟩ else ⟨-1, 0, (svL now d n).1⟩
def svD (d : Dk) (n : Nat) (now : Int) : Dk := if nx (svL now d n).2 2 = 0 then ad (ad (ad (svL now d n).2)) else ad (svL now d n).2
def svB (p g : Int) (l : List AV) : AV := .agg [iA p, iA g, .sl false l]
theorem svL_len (now : Int) (d : Dk) : ∀ i, (svL now d i).1.length = i
  | 0 => rfl
  | i + 1 => by simp [svL, svL_len now d i]
def cl1 (d : Dk) (ph now : Int) : Cl := ⟨nx d 3, nx (ad d) 4, nx (ad (ad d)) ph, [0, 1, 1, 0, 2, 3].getD (nx (ad (ad (ad d))) 6).toNat 0, max 0 (now - nx (ad (ad (ad (ad d)))) 20)⟩
def clL (ph now : Int) (d : Dk) : Nat → List Cl × Dk
  | 0 => ([], d)
  | i + 1 => ((clL ph now d i).1 ++ [cl1 (clL ph now d i).2 ph now], ad (ad (ad (ad (ad (clL ph now d i).2)))))
def clF (d : Dk) (ph now : Int) : List Cl := (clL ph now (ad d) (nx d 6).toNat).1
def clD (d : Dk) (ph now : Int) : Dk := (clL ph now (ad d) (nx d 6).toNat).2
theorem clL_len (ph now : Int) (d : Dk) : ∀ i, (clL ph now d i).1.length = i
  | 0 => rfl
  | i + 1 => by simp [clL, clL_len ph now d i]
end Av
end Go.Proofs.Ytianonghhmiooaa
/- law20: setting. -/
namespace Go.Proofs.Ytianonghhmiooaa
namespace Av
set_option linter.unusedSimpArgs false
set_option linter.unusedVariables false
set_option maxRecDepth 4000
set_option maxHeartbeats 400000
def d0 (xs : List Int) (hl : xs.length ≤ 9223372036854775807) : Dk := ⟨xs, 0, Nat.zero_le _, hl⟩
def ad4 (d : Dk) : Dk := ad (ad (ad (ad d)))
def cfgF (d : Dk) : Cf := ⟨[], [], 1 + nx d (5 - 1 + 1), nx (ad d) 6, 1 + nx (ad (ad d)) (4 - 1 + 1), nx (ad (ad (ad d))) 7⟩
def setN (d : Dk) : Nat := (1 + nx (ad4 d) (8 - 1 + 1)).toNat
def setS (d : Dk) (now : Int) : Sv := svF (ad (ad4 d)) (setN d) now
def setC (d : Dk) (now : Int) : List Cl := clF (svD (ad (ad4 d)) (setN d) now) (setN d) now
end Av
end Go.Proofs.Ytianonghhmiooaa
/- law20: bounds of what setting returns; awake. -/
namespace Go.Proofs.Ytianonghhmiooaa
namespace Av
set_option linter.unusedSimpArgs false
set_option linter.unusedVariables false
set_option maxRecDepth 4000
set_option maxHeartbeats 1000000
theorem e1_bd (d : Dk) (now : Int) (h : 0 ≤ now) : -1 ≤ e1 d now ∧ e1 d now ≤ now := by
  unfold e1
  have hb := nx_bd d 6 (by omega)
  have hb2 := nx_bd (ad d) 3 (by omega)
  generalize hx : (nx (ad d) 3).toNat = x
  obtain rfl | rfl | rfl : x = 0 ∨ x = 1 ∨ x = 2 := by omega
  all_goals (simp [List.getD]; omega)
theorem svL_bd (now : Int) (d : Dk) (h : 0 ≤ now) : ∀ i, ∀ e ∈ (svL now d i).1, -1 ≤ e ∧ e ≤ now
  | 0, e, he => by simp [svL] at he
  | i + 1, e, he => by
    simp only [svL, List.mem_append, List.mem_singleton] at he
    rcases he with he | rfl
    · exact svL_bd now d h i e he
    · exact e1_bd _ _ h
theorem getD_mem' {α : Type} (P : α → Prop) (d : α) : ∀ (l : List α) (i : Nat), (∀ x ∈ l, P x) → i < l.length → P (l.getD i d)
  | l, i, h, hi => by simp only [List.getD_eq_getElem?_getD, List.getElem?_eq_getElem hi, Option.getD_some]; exact h _ (List.getElem_mem hi)
theorem endF_bd (es : List Int) (now ph : Int) (h : 0 ≤ now) (he : ∀ e ∈ es, -1 ≤ e ∧ e ≤ now) : -1 ≤ endF es ph ∧ endF es ph ≤ now := by
  unfold endF
  split
  · omega
  · exact getD_mem' (fun e => -1 ≤ e ∧ e ≤ now) 0 es ph.toNat he (by omega)
structure ClB (ph now : Int) (c : Cl) : Prop where
  k0 : 0 ≤ c.k
  k1 : c.k ≤ 3
  s0 : 0 ≤ c.si
  s1 : c.si ≤ now
  a0 : 0 ≤ c.ag
  a1 : c.ag ≤ 2
  i0 : 0 ≤ c.id
  i1 : c.id ≤ 3
  p0 : 0 ≤ c.ph
  p1 : c.ph < ph
theorem cl1_bd (d : Dk) (ph now : Int) (h : 0 ≤ now) (hp : 1 ≤ ph) : ClB ph now (cl1 d ph now) := by
  have h0 := nx_bd d 3 (by omega)
  have h1 := nx_bd (ad d) 4 (by omega)
  have h2 := nx_bd (ad (ad d)) ph hp
  have h3 := nx_bd (ad (ad (ad d))) 6 (by omega)
  have h4 := nx_bd (ad (ad (ad (ad d)))) 20 (by omega)
  have hc : 0 ≤ [0, 1, 1, 0, 2, 3].getD (nx (ad (ad (ad d))) 6).toNat (0 : Int) ∧ [0, 1, 1, 0, 2, 3].getD (nx (ad (ad (ad d))) 6).toNat (0 : Int) ≤ 3 :=
    getD_mem' (fun e => 0 ≤ e ∧ e ≤ 3) (0 : Int) [0, 1, 1, 0, 2, 3] _ (by decide) (by simp; omega)
  unfold cl1
  constructor <;> dsimp only <;> omega
theorem clL_bd (ph now : Int) (d : Dk) (h : 0 ≤ now) (hp : 1 ≤ ph) : ∀ i, ∀ c ∈ (clL ph now d i).1, ClB ph now c
  | 0, e, he => by simp [clL] at he
  | i + 1, e, he => by
    simp only [clL, List.mem_append, List.mem_singleton] at he
    rcases he with he | rfl
    · exact clL_bd ph now d h hp i e he
    · exact cl1_bd _ _ _ h hp
/-- What setting returns. -/
structure SetOK (g : Cf) (s : Sv) (l : List Cl) (now : Int) : Prop where
  p0 : 1 ≤ g.per
  p1 : g.per ≤ 5
  c0 : 0 ≤ g.cap
  c1 : g.cap ≤ 5
  h0 : 1 ≤ g.hold
  h1 : g.hold ≤ 4
  l0 : 0 ≤ g.lock
  l1 : g.lock ≤ 6
  len : l.length ≤ 5
  n0 : 1 ≤ s.en.length
  n1 : s.en.length ≤ 8
  en : ∀ e ∈ s.en, -1 ≤ e ∧ e ≤ now
  cl : ∀ c ∈ l, ClB s.en.length now c
theorem svF_en (d : Dk) (n : Nat) (now : Int) : (svF d n now).en = (svL now d n).1 := by unfold svF; split <;> rfl
theorem set_ok (d : Dk) (now : Int) (h : 0 ≤ now) : SetOK (cfgF d) (setS d now) (setC d now) now := by
  have h0 := nx_bd d (5 - 1 + 1) (by omega)
  have h1 := nx_bd (ad d) 6 (by omega)
  have h2 := nx_bd (ad (ad d)) (4 - 1 + 1) (by omega)
  have h3 := nx_bd (ad (ad (ad d))) 7 (by omega)
  have h4 := nx_bd (ad4 d) (8 - 1 + 1) (by omega)
  have hN : 1 ≤ setN d ∧ setN d ≤ 8 := by unfold setN; omega
  have hM := nx_bd (svD (ad (ad4 d)) (setN d) now) 6 (by omega)
  have e : (setS d now).en = (svL now (ad (ad4 d)) (setN d)).1 := svF_en _ _ _
  have hlen : (setS d now).en.length = setN d := by rw [e]; exact svL_len _ _ _
  constructor
  case len => unfold setC clF; rw [clL_len]; omega
  case en => rw [e]; exact svL_bd now _ h _
  case cl => rw [hlen]; exact clL_bd _ now _ h (by omega) _
  case n0 => omega
  case n1 => omega
  all_goals (unfold cfgF; dsimp only; omega)
theorem SetOK.cok {g : Cf} {s : Sv} {l : List Cl} {now : Int} (H : SetOK g s l now) (hn : 0 ≤ now) (hn2 : now ≤ 1000000) : ∀ i, i < l.length → COk g.per now s.en (l.getD i default) := fun i hi => by
  obtain ⟨a0, a1, a2, a3, a4, a5, a6, a7, a8, a9⟩ := getD_mem' (ClB s.en.length now) default l i H.cl hi
  have he := endF_bd s.en now (l.getD i default).ph hn H.en
  have hp := H.p0
  constructor <;> (try unfold staF) <;> omega
theorem SetOK.sta {g : Cf} {s : Sv} {l : List Cl} {now : Int} (H : SetOK g s l now) (hn : 0 ≤ now) : ∀ i, i < l.length → staF s.en (l.getD i default).ph (l.getD i default).si ≤ now := fun i hi => by
  obtain ⟨a0, a1, a2, a3, a4, a5, a6, a7, a8, a9⟩ := getD_mem' (ClB s.en.length now) default l i H.cl hi
  have he := endF_bd s.en now (l.getD i default).ph hn H.en
  unfold staF
  omega
end Av
end Go.Proofs.Ytianonghhmiooaa
