/- Part 3. -/
import Derived.Test.YtdjfiebpnmieoaaGreatProg
import Derived.Test.YtdjfiebpnmieoaaGreatC02
import Derived.RangeFuncIn
import Derived.RangeFuncSeq
import Derived.RangeFuncLeaves
import Derived.Laws.BytesArg
import Derived.Laws.Strings
import Derived.Laws.StructEq
namespace Go.Proofs.YtdjfiebpnmieoaaGreat.Av
set_option linter.all false
open List renaming length->ln,replicate->nm,getD->ny
open Inhabited renaming default->dd
variable {a:Act}{asq:Array Operand}{nn sb:Bool}{body c:Code}{Q:Exit->St->Prop}{sl:Fl}{m:Int}{k':IntKind}{d h0:List (Nat×wB)}{b:List Int}{K0 nw r:List Nat}{T e i k len n off sz:Nat}{X:Nat->Prop}{op:Op}{l s x y:Operand}{P:Program}{st:St}{te ti:TI}{w:World}{β:qG}{h:yS}
abbrev zFN:TI:=⟨.func,1,8,[.nilFunc]⟩
abbrev zPT (n:Nat):TI:=⟨.ptr n,1,8,[.pointer none]⟩
abbrev zSL (n:Nat):TI:=⟨.slice n,1,24,[.slice none 0 0]⟩
abbrev zNL:Value:= .slice none 0 0
abbrev zZI:Value:= .int .i64 0
abbrev zTA:TI:=⟨.str [(0,3),(1,3),(2,3),(3,3),(4,3)],5,40,[zZI,zZI,zZI,zZI,zZI]⟩
abbrev zTB:TI:=⟨.int .u8,1,1,[.int .u8 0]⟩
abbrev zTC:TI:=⟨.str [(0,3),(1,3),(2,3)],3,24,[zZI,zZI,zZI]⟩
abbrev zTD:TI:=⟨.str [(0,3),(1,3)],2,16,[zZI,zZI]⟩
abbrev zTE:TI:=⟨.other,1,0,[.tuple #[zNL,zZI]]⟩
abbrev zTF:TI:=⟨.int .i64,1,8,[zZI]⟩
abbrev zTG:TI:=⟨.string,1,16,[.string ⟨#[]⟩]⟩
abbrev zTH:TI:=⟨.int .u64,1,8,[.int .u64 0]⟩
abbrev zTI:TI:=⟨.int .i32,1,4,[.int .i32 0]⟩
abbrev zTJ:TI:=⟨.str [(0,2),(1,3),(2,4),(3,6)],4,24,[zZI,zZI,.bool false,.int .u8 0]⟩
abbrev zTK:TI:=⟨.str [(0,9),(1,12)],2,24,[.string ⟨#[]⟩,.int .u64 0]⟩
abbrev zTL:TI:=⟨.str [(0,17)],1,8,[.pointer none]⟩
abbrev zTM:TI:=⟨.str [(0,22),(1,23),(2,3),(3,3),(4,3),(5,3)],6,80,[zNL,zNL,zZI,zZI,zZI,zZI]⟩
abbrev zTN:TI:=⟨.str [(0,25),(6,4),(7,3),(8,32),(9,33),(10,34),(11,26),(12,35)],13,216,[zNL,zNL,zZI,zZI,zZI,zZI,.bool false,zZI,zNL,zNL,zNL,zNL,zNL]⟩
abbrev zTO:TI:=⟨.str [(0,37),(13,41)],14,240,[zNL,zNL,zZI,zZI,zZI,zZI,.bool false,zZI,zNL,zNL,zNL,zNL,zNL,zNL]⟩
abbrev zTP:TI:=⟨.str [(0,3),(1,3),(2,3),(3,3),(4,27)],5,56,[zZI,zZI,zZI,zZI,zNL]⟩
abbrev zTQ:TI:=⟨.str [(0,65),(1,26),(2,3)],3,56,[zNL,zNL,zZI]⟩
abbrev zTR:TI:=⟨.str [(0,27),(1,3),(2,3),(3,26),(4,3),(5,3),(6,3),(7,3)],8,96,[zNL,zZI,zZI,zNL,zZI,zZI,zZI,zZI]⟩
abbrev zTS:TI:=⟨.str [(0,70),(1,71)],2,48,[zNL,zNL]⟩
abbrev zTT:TI:=⟨.str [(0,4),(1,76)],2,32,[.bool false,zNL]⟩
abbrev zTU:TI:=⟨.str [(0,3),(1,27),(2,26),(3,27)],4,80,[zZI,zNL,zNL,zNL]⟩
abbrev zTV:TI:=⟨.str [(0,3),(1,69),(9,83),(10,84),(11,86)],14,176,[zZI,zNL,zZI,zZI,zNL,zZI,zZI,zZI,zZI,zNL,zNL,zZI,zZI,zZI]⟩
abbrev zTW:TI:=⟨.str [(0,88),(14,89),(15,50),(16,90)],17,248,[zZI,zNL,zZI,zZI,zNL,zZI,zZI,zZI,zZI,zNL,zNL,zZI,zZI,zZI,zNL,zNL,zNL]⟩
abbrev zTX:TI:=⟨.str [(0,94),(1,3),(2,26),(3,3)],4,64,[zNL,zZI,zNL,zZI]⟩
abbrev zTY:TI:=⟨.str [(0,96),(4,4)],5,72,[zNL,zZI,zNL,zZI,.bool false]⟩
abbrev zTZ:TI:=⟨.str [(0,3),(1,3),(2,26)],3,40,[zZI,zZI,zNL]⟩
abbrev zUA:TI:=⟨.str [(0,4),(1,4),(2,26),(3,26)],4,56,[.bool false,.bool false,zNL,zNL]⟩
abbrev zUB:TI:=⟨.str [(0,26),(1,3)],2,32,[zNL,zZI]⟩
abbrev zUC:TI:=⟨.str [(0,50),(1,27)],2,48,[zNL,zNL]⟩
abbrev zUD:TI:=⟨.str [(0,3),(1,3),(2,3),(3,3),(4,3),(5,3),(6,3),(7,3)],8,64,[zZI,zZI,zZI,zZI,zZI,zZI,zZI,zZI]⟩
abbrev zUE:TI:=⟨.str [(0,27),(1,4)],2,32,[zNL,.bool false]⟩
abbrev zUF:TI:=⟨.str [(0,4),(1,4),(2,167)],4,40,[.bool false,.bool false,zNL,.bool false]⟩
abbrev zUG:TI:=⟨.str [(0,3),(1,3),(2,3),(3,3),(4,183)],5,56,[zZI,zZI,zZI,zZI,zNL]⟩
abbrev zUH:TI:=⟨.str [(0,3),(1,3),(2,202)],3,24,[zZI,zZI,zZI]⟩
abbrev zUI:TI:=⟨.str [(0,202),(1,3),(2,27)],3,40,[zZI,zZI,zNL]⟩
abbrev zUJ:TI:=⟨.str [(0,4),(1,27),(2,3),(3,3),(4,3),(5,3)],6,64,[.bool false,zNL,zZI,zZI,zZI,zZI]⟩
abbrev zUK:TI:=⟨.str [(0,3),(1,3),(2,3),(3,3),(4,3),(5,3)],6,48,[zZI,zZI,zZI,zZI,zZI,zZI]⟩
abbrev zUL:TI:=⟨.other,1,0,[.tuple #[zZI,zZI]]⟩
abbrev zUM:TI:=⟨.str [(0,17),(1,17),(2,17),(3,9)],4,40,[.pointer none,.pointer none,.pointer none,.string ⟨#[]⟩]⟩
abbrev zUN:TI:=⟨.str [(0,397)],0,0,[]⟩
abbrev zUO:TI:=⟨.str [(0,12),(1,12),(2,284),(3,401),(4,5),(5,5),(6,402),(7,403),(8,404),(9,405),(10,406)],11,48,[.int .u64 0,.int .u64 0,.int .u32 0,.int .u8 0,.int .u8 0,.int .u8 0,.int .u8 0,.nilFunc,.pointer none,.int .i32 0,.int .i32 0]⟩
def TT:List TI:=[⟨.other,1,0,[.tuple #[]]⟩,zFN,zTF,zTF,⟨.bool,1,1,[.bool false]⟩,zTB,zTB,zTJ,zTJ,zTG,zTG,zTG,zTH,zTK,zTK,zPT 396,zPT 399,zPT 408,zTL,zTL,⟨.other,1,16,[.nilIface]⟩,zTI,zSL 67,zSL 69,zTM,zTM,zSL 3,zSL 5,zFN,zFN,zFN,zFN,zSL 92,zSL 98,zSL 101,zSL 104,zTN,zTN,zFN,zPT 111,zFN,zSL 169,zTO,zTO,zFN,⟨.arr 2 3,2,16,[zZI,zZI]⟩,zFN,zSL 45,zFN,zFN,zSL 27,zFN,zSL 55,zFN,zTA,zTA,zFN,zFN,zTP,zTP,zSL 59,zFN,zSL 116,zFN,zFN,zSL 154,zTQ,zTQ,zTR,zTR,zSL 71,zSL 81,zTS,zTS,⟨.other,1,0,[.tuple #[.agg #[zNL,zNL,zZI,zZI,zZI,zZI,.bool false,zZI,zNL,zNL,zNL,zNL,zNL],.agg #[zNL,zNL]]]⟩,zFN,zSL 227,zTT,zTT,zSL 78,zTU,zTU,zFN,zSL 250,zSL 252,zTC,zTC,zTV,zTV,zSL 185,zSL 4,zTW,zTW,zFN,zSL 156,zTX,zTX,zTY,zTY,zFN,zTZ,zTZ,zFN,zUA,zUA,zFN,zFN,zFN,zFN,zFN,zUB,zUB,zFN,zFN,zFN,zUC,zUC,⟨.other,1,0,[.tuple #[.agg #[zNL,zNL,zZI,zZI,zZI,zZI,.bool false,zZI,zNL,zNL,zNL,zNL,zNL,zNL],.agg #[zNL,zNL],.bool false]]⟩,zFN,zFN,zTH,zTH,zPT 92,zFN,zFN,zFN,zFN,zFN,zSL 70,zSL 204,⟨.other,1,0,[.tuple #[zNL,zNL,zNL]]⟩,zFN,⟨.other,1,0,[.tuple #[.agg #[zNL,zZI,zNL,zZI,.bool false],.bool false]]⟩,zFN,zFN,zPT 37,zFN,zFN,zFN,zTC,zTC,zFN,zFN,zFN,zFN,zFN,zFN,zFN,zFN,zFN,zFN,zFN,zFN,zUD,zUD,zTD,zTD,zFN,zFN,zFN,zFN,zFN,zFN,zFN,zFN,zFN,zUE,zUE,zUF,zUF,zFN,zFN,⟨.other,1,0,[.tuple #[.agg #[.bool false,.bool false,zNL,.bool false],.agg #[.bool false,zNL]]]⟩,zFN,zFN,zFN,zFN,zFN,zFN,zFN,zFN,zFN,zFN,zSL 188,zUG,zUG,zFN,zTA,zTA,zFN,zFN,⟨.other,1,0,[.tuple #[.agg #[zNL,zNL,zZI,zZI,zZI,zZI,.bool false,zZI,zNL,zNL,zNL,zNL,zNL,zNL],.agg #[zNL,zNL]]]⟩,zFN,zFN,zFN,⟨.other,1,0,[.tuple #[.agg #[zZI,zNL,zZI,zZI,zNL,zZI,zZI,zZI,zZI,zNL,zNL,zZI,zZI,zZI,zNL,zNL,zNL],zNL,zNL,zNL]]⟩,zFN,
 ⟨.other,1,0,[.tuple #[.agg #[zNL,zZI,zNL,zZI,.bool false],.agg #[zZI,zZI,zNL]]]⟩,zFN,zFN,zFN,zFN,zTF,zUH,zUH,zFN,zFN,zFN,zFN,zFN,zFN,zFN,zFN,zFN,zFN,zFN,zFN,zPT 96,zFN,zFN,zFN,zTE,zFN,zFN,⟨.other,1,0,[.tuple #[.agg #[zNL,.bool false],.bool false]]⟩,zFN,zUI,zUI,⟨.other,1,0,[.tuple #[.agg #[zNL,.bool false],zNL]]⟩,zFN,zFN,zFN,zFN,zFN,zFN,zFN,zFN,zFN,zFN,zFN,⟨.other,1,0,[.tuple #[.agg #[zZI,zNL,zZI,zZI,zNL,zZI,zZI,zZI,zZI,zNL,zNL,zZI,zZI,zZI,zNL,zNL,zNL],.agg #[zZI,zNL,zNL,zNL],.agg #[zZI,zZI,zZI],zZI]]⟩,zFN,zFN,zFN,zFN,zFN,zFN,zFN,zFN,zUJ,zUJ,zTD,zTD,zFN,zFN,zFN,zFN,⟨.other,1,0,[.tuple #[.agg #[zZI,zZI,zNL],zZI,.bool false]]⟩,zFN,zFN,zFN,zFN,zFN,zFN,zFN,⟨.other,1,0,[.tuple #[.agg #[zZI,zNL,zZI,zZI,zNL,zZI,zZI,zZI,zZI,zNL,zNL,zZI,zZI,zZI,zNL,zNL,zNL],.agg #[zZI,zNL,zNL,zNL],zZI,zZI]]⟩,zFN,zFN,zFN,zFN,zFN,zFN,zFN,zUK,zUK,⟨.other,1,0,[.tuple #[.agg #[zZI,zZI,zZI,zZI,zZI,zZI],.bool false]]⟩,zFN,⟨.other,1,0,[.tuple #[zZI,.bool false]]⟩,zFN,zFN,zFN,zFN,zFN,zFN,⟨.int .u32,1,4,[.int .u32 0]⟩,zFN,zFN,⟨.other,1,0,[.tuple #[.agg #[zZI,zNL,zNL,zNL],zZI]]⟩,zFN,⟨.other,1,0,[.tuple #[.agg #[zZI,zNL,zZI,zZI,zNL,zZI,zZI,zZI,zZI,zNL,zNL,zZI,zZI,zZI],zZI,zZI]]⟩,zFN,zFN,zFN,zTA,zTA,zFN,zFN,zFN,zFN,zFN,⟨.other,1,0,[.tuple #[.agg #[zZI,zNL,zZI,zZI,zNL,zZI,zZI,zZI,zZI,zNL,zNL,zZI,zZI,zZI,zNL,zNL,zNL],.agg #[zZI,zNL,zNL,zNL],zZI]]⟩,zFN,zTE,zFN,zFN,zFN,zFN,zFN,zFN,zFN,zFN,zFN,zFN,zFN,zFN,⟨.other,1,0,[.tuple #[zNL,zNL,.bool false]]⟩,zFN,zUL,zFN,⟨.other,1,0,[.tuple #[.agg #[zZI,zZI,zZI],.bool false]]⟩,zFN,⟨.other,1,0,[.tuple #[.agg #[zZI,zNL,zZI,zZI,zNL,zZI,zZI,zZI,zZI,zNL,zNL,zZI,zZI,zZI,zNL,zNL,zNL],zZI]]⟩,zFN,zFN,zFN,zFN,zFN,zFN,zFN,zFN,zFN,zFN,zFN,zFN,
 ⟨.other,1,0,[.tuple #[.agg #[zZI,zNL,zZI,zZI,zNL,zZI,zZI,zZI,zZI,zNL,zNL,zZI,zZI,zZI],.agg #[zZI,zNL,zNL,zNL],.bool false,zZI]]⟩,zFN,zFN,zFN,zFN,zFN,zFN,zFN,zUL,zFN,zFN,zFN,⟨.other,1,0,[.tuple #[zZI,zZI,zZI]]⟩,zFN,zFN,⟨.other,1,0,[.tuple #[.agg #[zZI,zZI],.bool false]]⟩,zFN,⟨.other,1,0,[.tuple #[.agg #[zZI,zZI,zZI,zZI,zZI],zZI]]⟩,zFN,zFN,zFN,zFN,⟨.arr 5 3,5,40,[zZI,zZI,zZI,zZI,zZI]⟩,zFN,zFN,zFN,zFN,zFN,zPT 88,zTE,zFN,zTE,zFN,zFN,zFN,zFN,zFN,zFN,⟨.other,1,0,[.tuple #[zNL,zZI,zZI]]⟩,zFN,zFN,zFN,⟨.other,1,0,[.tuple #[.agg #[zZI,zZI,zZI,zZI,zNL],.bool false]]⟩,zFN,zFN,zFN,zFN,zFN,zFN,zFN,zFN,zFN,zFN,zFN,zFN,zFN,zSL 84,zFN,zFN,zFN,zFN,zUM,zUM,⟨.arr 0 16,0,0,[]⟩,zUN,zUN,zFN,zTB,zTB,zFN,zPT 5,zTI,zTI,zUO,zUO,⟨.other,1,8,[.pointer none]⟩]
def tok:qS Tryz.prog TT:=ye UH
section
variable {P:Program} {TT:List TI} {K0:List Nat} {F:Fr K0} {m:Nat} {ops:Array Oper} {rest:List Oper} {Q:List FP->St->Prop} {tm:List (Nat×AV)} {h:List (Nat×wB)} {dr:Bool} {fs:List FP}
variable {ty:Nat} {pos:String} {after:Array Edge} {t:Nat}
def Gd {h:List (Nat×wB)} {t:Nat} (u:(zE h t).isNone=true): [t].all (λj=>(zE h j).isNone)=true:=by simpa using u
def kZ (u:qS P TT) {xs cs:List AV} (hx:yY (zM tm) x= .fp xs i 0) (hT:TT[T]? =some ti) (z:ti.d.agg=true) (A:xs[i]? =some (.agg cs)) (hs:Nat.beq ti.size (ln cs)=true):
  vC P ⟨tm,h⟩ (.load T x) (.agg cs) [] [] []:=by
 have e:=zA9 hs;refine WF u hx A hT ?_;unfold mc;rw[z,e];simp[AV.cells,zDt (zAg (ln cs))]
def jA (u:qS P TT) {xs:List AV} {y v:AV} (hx:yY (zM tm) x= .fp xs i off) (hT:TT[T]? =some ti) (z:ti.d.agg=false) (A:xs[i]? =some y) (hv:y.cells[off]? =some v):
  vC P ⟨tm,h⟩ (.load T x) v [] [] []:=by
 refine WF u hx A hT ?_;unfold mc;rw[z];exact hv
def kG (u:qS P TT) {xs cs:List AV} (hx:yY (zM tm) x= .ptr k i 0) (hk:zE h k=some (.arr sz xs sl)) (hT:TT[T]? =some ti) (z:ti.d.agg=true) (A:xs[i]? =some (.agg cs)) (hs:Nat.beq ti.size (ln cs)=true):
  vC P ⟨tm,h⟩ (.load T x) (.agg cs) [] [k] []:=by
 have e:=zA9 hs;refine cT u hx hk A hT ?_;unfold mc;rw[z,e];simp[AV.cells,zDt (zAg (ln cs))]
def kH (u:qS P TT) {xs:List AV} {y v:AV} (hx:yY (zM tm) x= .ptr k i off) (hk:zE h k=some (.arr sz xs sl)) (hT:TT[T]? =some ti) (z:ti.d.agg=false) (A:xs[i]? =some y) (hv:y.cells[off]? =some v):
  vC P ⟨tm,h⟩ (.load T x) v [] [k] []:=by
 refine cT u hx hk A hT ?_;unfold mc;rw[z];exact hv
def eG (G:qS P TT) {E:AV} {ys:List AV} (hs:yY (zM tm) s= .s (.slice none 0 0)) (hx:yY (zM tm) x=E) (hT:TT[T]? =some ti) (hd:ti.d= .slice e) (I:TT[e]? =some te)
 (B:je (zE h) E=some ys) (A:∀y,ys[0]? =some y->ln y.cells=te.size) (O:Nat.ble 1 te.size=true) (hb:Nat.ble te.bytes 65536=true) (R:Nat.beq (ln te.zero) te.size=true) (M:ln ys<=1073741824) (L:Nat.blt t m=true) (u:(zE h t).isNone=true)
 (z:te.size=sz) (hk:yQ P F m ops dr rest ⟨(t,.ref t 0 (ln ys))::tm,(t,.arr sz ys false)::h⟩ (⟨true,[t,t],JK E⟩::fs) Q) (C:te.zero.all (·.oneCell')=true:=by rfl):yQ P F m ops dr (⟨some t,.call ⟨.builtin .append, #[s,x], #[T,T]⟩,ty,pos,after,none⟩::rest) ⟨tm,h⟩ fs Q:=by
 subst z;exact qB (nw:=[t]) (WJ G t hs hx hT hd I B A O hb R C M) L (Gd u) Z hk
def Pn (R:qS P TT) {n:Nat} {kx ky:IntKind} {nx O:Int} {z:AV} (hx:yY (zM tm) x= .s (.int kx nx)) (W:yY (zM tm) y= .s (.int ky O)) (hT:TT[T]? =some ti) (hd:ti.d= .slice e) (S:TT[e]? =some te)
 (hb:Nat.ble te.bytes 65536=true) (V:Nat.ble 1 te.size=true) (M:Nat.beq (ln te.zero) te.size=true) (I:te.zero.all (·.oneCell')=true) (L:Nat.beq (uW te).cells.length te.size=true) (A:(uW te).cells=te.zero.map .s) (Y:uW te=z)
 (C:nx=(n:Int)) (E:nx<=O) (u:O<=1073741824) (U:Nat.blt t m=true) (B:(zE h t).isNone=true)
 (G:te.size=sz) (hk:yQ P F m ops dr rest ⟨(t,.ref t 0 n)::tm,(t,.arr sz (nm n z) false)::h⟩ (⟨true,[t,t],[]⟩::fs) Q):yQ P F m ops dr (⟨some t,.makeSlice T x y,ty,pos,after,none⟩::rest) ⟨tm,h⟩ fs Q:=by
 subst G Y;exact qB (nw:=[t]) (UZ R t hx W hT hd S C E u hb V M I L A) U (Gd B) Z hk
def jX (G:qS P TT) {k:Nat} {xs:List AV} {E:AV} {ys:List AV} (hs:yY (zM tm) s= .ref k 0 len) (hk:zE h k=some (.arr sz xs ⟨sb,false⟩)) (hx:yY (zM tm) x=E) (hT:TT[T]? =some ti) (hd:ti.d= .slice e) (I:TT[e]? =some te)
 (B:je (zE h) E=some ys) (z:Nat.beq sz te.size=true) (hb:Nat.ble te.bytes 65536=true) (R:Nat.beq (ln te.zero) te.size=true) (u:len=ln xs) (A:∀y,ys[0]? =some y->ln y.cells=sz) (M:ln xs+ln ys<=1073741824) (L:Nat.blt t m=true)
 (O:yQ P F m ops dr rest ⟨(t,.ref k 0 (xs++ys).length)::tm,(k,.arr sz (xs++ys) true)::h⟩ (⟨true,[k],k::JK E⟩::fs) Q) (C:te.zero.all (·.oneCell')=true:=by rfl):yQ P F m ops dr (⟨some t,.call ⟨.builtin .append, #[s,x], #[T,T]⟩,ty,pos,after,none⟩::rest) ⟨tm,h⟩ fs Q:=by
 subst u;exact qB (nw:=[]) (JL G hs hk hx hT hd I B A z hb R C M) L Z Z O
def wP (G:qS P TT) {k:Nat} {xs:List AV} {E:AV} {ys:List AV} (hs:yY (zM tm) s= .ref k 0 len) (hk:zE h k=some (.arr sz xs sl)) (hx:yY (zM tm) x=E) (hT:TT[T]? =some ti) (hd:ti.d= .slice e) (I:TT[e]? =some te)
 (B:QT true (zE h) E=some ys) (z:Nat.beq sz te.size=true) (hb:Nat.ble te.bytes 65536=true) (R:Nat.beq (ln te.zero) te.size=true) (u:len=ln xs) (A:∀y,ys[0]? =some y->ln y.cells=sz) (M:ln xs+ln ys<=1073741824) (L:Nat.blt t m=true)
 (O:yQ P F m ops dr rest ⟨(t,.ref k 0 (xs++ys).length)::tm,(k,.arr sz (xs++ys) ⟨true,true⟩)::h⟩ (⟨true,[k],k::JK E⟩::fs) Q) (C:te.zero.all (·.oneCell')=true:=by rfl):yQ P F m ops dr (⟨some t,.call ⟨.builtin .append, #[s,x], #[T,T]⟩,ty,pos,after,none⟩::rest) ⟨tm,h⟩ fs Q:=by
 subst u;exact qB (nw:=[]) (NP G hs hk hx hT hd I B A z hb R C M) L Z Z O
section
variable {op:BinOp} {tx t2:Nat} {x y:Operand} {k:IntKind} {a b:Int} (hx:yY (zM tm) x= .s (.int k a)) (hy:yY (zM tm) y= .s (.int k b))
include hx hy
def On (hh:a<b):vC P ⟨tm,h⟩ (.binOp .lss tx x y t2) (.s (.bool true)) [] [] []:=by have:=EY (P:=P) (st:=⟨tm,h⟩) (tx:=tx) (ty:=t2) hx hy;rwa [zAd hh]at this
def Nn (hh:¬a<b):vC P ⟨tm,h⟩ (.binOp .lss tx x y t2) (.s (.bool false)) [] [] []:=by have:=EY (P:=P) (st:=⟨tm,h⟩) (tx:=tx) (ty:=t2) hx hy;rwa [zAc hh]at this
def Mn (hh:a<=b):vC P ⟨tm,h⟩ (.binOp .leq tx x y t2) (.s (.bool true)) [] [] []:=by have:=EZ (P:=P) (st:=⟨tm,h⟩) (tx:=tx) (ty:=t2) hx hy;rwa [zAd hh]at this
def Ln (hh:¬a<=b):vC P ⟨tm,h⟩ (.binOp .leq tx x y t2) (.s (.bool false)) [] [] []:=by have:=EZ (P:=P) (st:=⟨tm,h⟩) (tx:=tx) (ty:=t2) hx hy;rwa [zAc hh]at this
def Kn (hh:b<a):vC P ⟨tm,h⟩ (.binOp .gtr tx x y t2) (.s (.bool true)) [] [] []:=by have:=DA (P:=P) (st:=⟨tm,h⟩) (tx:=tx) (ty:=t2) hx hy;rwa [zAd hh]at this
def Hn (hh:¬b<a):vC P ⟨tm,h⟩ (.binOp .gtr tx x y t2) (.s (.bool false)) [] [] []:=by have:=DA (P:=P) (st:=⟨tm,h⟩) (tx:=tx) (ty:=t2) hx hy;rwa [zAc hh]at this
def Gn (hh:b<=a):vC P ⟨tm,h⟩ (.binOp .geq tx x y t2) (.s (.bool true)) [] [] []:=by have:=DB (P:=P) (st:=⟨tm,h⟩) (tx:=tx) (ty:=t2) hx hy;rwa [zAd hh]at this
def Cn (hh:¬b<=a):vC P ⟨tm,h⟩ (.binOp .geq tx x y t2) (.s (.bool false)) [] [] []:=by have:=DB (P:=P) (st:=⟨tm,h⟩) (tx:=tx) (ty:=t2) hx hy;rwa [zAc hh]at this
def Bn (hh:a=b):vC P ⟨tm,h⟩ (.binOp .eql tx x y t2) (.s (.bool true)) [] [] []:=by have:=EW (P:=P) (st:=⟨tm,h⟩) (tx:=tx) (ty:=t2) hx hy;rwa [show(a==b)=true by simpa using hh]at this
def An (hh:a≠b):vC P ⟨tm,h⟩ (.binOp .eql tx x y t2) (.s (.bool false)) [] [] []:=by have:=EW (P:=P) (st:=⟨tm,h⟩) (tx:=tx) (ty:=t2) hx hy;rwa [show(a==b)=false by simpa using hh]at this
def zo (hh:a≠b):vC P ⟨tm,h⟩ (.binOp .neq tx x y t2) (.s (.bool true)) [] [] []:=by have:=EX (P:=P) (st:=⟨tm,h⟩) (tx:=tx) (ty:=t2) hx hy;rwa [show(a != b)=true by simpa using hh]at this
def yo (hh:a=b):vC P ⟨tm,h⟩ (.binOp .neq tx x y t2) (.s (.bool false)) [] [] []:=by have:=EX (P:=P) (st:=⟨tm,h⟩) (tx:=tx) (ty:=t2) hx hy;rwa [show(a != b)=false by simpa using hh]at this
end
end
def Tj {β:Type} (v:AV) (K:AV->Option β):Option β:=match v with
 | .s v=>K (.s v)
 | .ptr k i o=>K (.ptr k i o)
 | .agg cs=>K (.agg cs)
 | .sl b xs=>K (.sl b xs)
 | .slc b xs=>K (.slc b xs)
 | .ref k o n=>K (.ref k o n)
 | .fp xs i o=>K (.fp xs i o)
 | .fn f cs=>K (.fn f cs)
 | .tup vs=>K (.tup vs)
 | .bot=>K .bot
 | .gh n=>K (.gh n)
 | .fm o p=>K (.fm o p)
theorem XV {β:Type} (v:AV) (K:AV->Option β):Tj v K=K v:=by cases v<;>rfl
def NK {β:Type}:List AV->(List AV->Option β)->Option β
 | [],K=>K []
 |x::r,K=>Tj x λx=>NK r λr=>K (x::r)
theorem eI {β:Type}:∀(l:List AV) (K:List AV->Option β),NK l K=K l
 | [],_=>rfl
 |x::r,K=>by rw[NK,XV,eI r]
abbrev H9:=AV×List (Nat×wB)×List Nat×List Nat
def V1 (ti:TI) (u:List AV) (off:Nat) (r:List Nat):Option H9:=
 bif ti.d.agg then(bif Nat.ble (off+ti.size) (ln u) then NK ((u.drop off).take ti.size) λl=>some (.agg l,[],r,[])else none)
 else match u[off]? with
  |some v=>Tj v λv=>some (v,[],r,[])
  |none=>none
def og:BinOp->Bool
 | .eql| .neq| .lss| .leq| .gtr| .geq=>true
 |_=>false
def aC:Nat->List Nat->Bool
 |_,[]=>true
 |n,x::r=>Nat.beq x n&&aC (n+1) r
def exec (TT:List TI) (u:List (Nat×AV)) (h:List (Nat×wB)) (t:Nat):Op->Option H9
 | .move x=>Tj (yY (zM u) x) λv=>some (v,[],[],[])
 | .assign x=>Tj (yY (zM u) x) λv=>some (v,[],[],[])
 | .pick c x y=>match yY (zM u) c with
  | .s (.bool b)=>bif b then Tj (yY (zM u) x) λv=>some (v,[],[],[])else Tj (yY (zM u) y) λv=>some (v,[],[],[])
  |_=>none
 | .extract x i=>match yY (zM u) x with
  | .tup vs=>match vs[i]? with
   |some v=>Tj v λv=>some (v,[],[],[])
   |none=>none
  |_=>none
 | .box _ x=>match yY (zM u) x with
  | .agg cs=>some (.ptr t 0 0,[(t,.box cs)],[],[t])
  |v=>bif v.one then Tj v λv=>some (.ptr t 0 0,[(t,.box [v])],[],[t])else none
 | .alloc T=>match TT[T]? with
  |some ti=>bif ti.zero.all (·.oneCell')then NK (ti.zero.map AV.s) λl=>some (.ptr t 0 0,[(t,.box l)],[],[t])else none
  |none=>none
 | .load T x=>match yY (zM u) x,TT[T]? with
  | .ptr k 0 off,some ti=>match zE h k with
   |some (.box cs)=>V1 ti cs off [k]
   |some (.arr _ xs _)=>match xs[0]? with
    |some y=>V1 ti y.cells off [k]
    |none=>none
   |_=>none
  | .ptr k (i+1) off,some ti=>match zE h k with
   |some (.arr _ xs _)=>match xs[i+1]? with
    |some y=>V1 ti y.cells off [k]
    |none=>none
   |_=>none
  | .fp xs i off,some ti=>match xs[i]? with
   |some y=>V1 ti y.cells off []
   |none=>none
  |_,_=>none
 | .store T p x=>match yY (zM u) p,TT[T]? with
  | .ptr k 0 off,some ti=>match zE h k with
   |some (.box cs)=>Tj (yY (zM u) x) λv=>bif v.ok&&(Nat.beq (ln v.cells) ti.size&&Nat.ble (off+ti.size) (ln cs))then NK (QP cs off v.cells) λl=>some (.bot,[(k,.box l)],[k],[])else none
   |_=>none
  |_,_=>none
 | .fieldAddr T x f=>match yY (zM u) x,TT[T]? with
  | .ptr k 0 off,some ti=>match zE h k,ti.d with
   | some (.box _),.str fs=>match fs[f]? with
    |some (o,ft)=>match TT[ft]? with
     |some A=>bif Nat.ble 1 A.size then some (.ptr k 0 (off+o),[],[k],[])else none
     |none=>none
    |none=>none
   |_,_=>none
  |_,_=>none
 | .field T x f=>match yY (zM u) x,TT[T]? with
  | .agg cs,some ti=>match ti.d with
   | .str fs=>match fs[f]? with
    |some (o,ft)=>match TT[ft]? with
     |some A=>V1 A cs o []
     |none=>none
    |none=>none
   |_=>none
  |_,_=>none
 | .nilCheck x=>match yY (zM u) x with
  | .ptr k 0 off=>match zE h k with
   |some (.box _)=>some (.ptr k 0 off,[],[k],[])
   |_=>none
  |_=>none
 | .unOp .not _ x=>match yY (zM u) x with
  | .s (.bool b)=>some (.s (.bool !b),[],[],[])
  |_=>none
 | .makeFunc (.func f) ⟨[]⟩ cap=>NK (cap.toList.map (yY (zM u))) λl=>some (.fn f l,[],[],[])
 | .build T z=>match TT[T]? with
  | some ti=>match ti.d with
   | .str fs=>bif ti.zero.all (·.oneCell')then(match fe TT fs with
    |some B=>match JM (B[·]?) (ti.zero.map .s) (ZK ⟨u,h⟩ z)with
     |some cs=>NK cs λl=>some (.agg l,[],[],[])
     |none=>none
    |none=>none)else none
   | .arr _ e=>bif ti.zero.all (·.oneCell')then(match TT[e]? with
    |some te=>match JM (λi=>some (i*te.size,te.size)) (ti.zero.map .s) (ZK ⟨u,h⟩ z)with
     |some cs=>NK cs λl=>some (.agg l,[],[],[])
     |none=>none
    |none=>none)else none
   |_=>none
  |none=>none
 | .buildSlice T len z=>match TT[T]? with
  | some ti=>match ti.d with
   | .slice e=>match TT[e]? with
    | some te=>bif aC 0 (z.toList.map (·.1))&&(Nat.beq (ln z.toList) len&&(Nat.ble 1 te.size&&(Nat.ble (len*te.size) 65536&&Nat.beq (ln te.zero) te.size)))then
      NK (z.toList.map λp=>yY (zM u) p.2) λxs=>bif xs.all (λx=>Nat.beq (ln x.cells) te.size&&(x.ok&&x.nokey))then some (.ref t 0 len,[(t,.arr te.size xs false)],[],[t])else none else none
    |none=>none
   |_=>none
  |none=>none
 | .call ⟨.builtin .len,⟨[x]⟩,⟨[T]⟩⟩=>match TT[T]? with
  | some ti=>match ti.d with
   | .slice _=>match yY (zM u) x with
    | .sl _ xs=>some (.s (.int .i64 (ln xs)),[],[],[])
    | .ref k _ len=>match zE h k with
     |some (.arr _ _ _)=>some (.s (.int .i64 len),[],[k],[])
     |_=>none
    | .s (.slice _ n _)=>some (.s (.int .i64 n),[],[],[])
    |_=>none
   |_=>none
  |none=>none
 | .call ⟨.builtin .max,⟨[x,y]⟩,⟨[_,_]⟩⟩=>match yY (zM u) x,yY (zM u) y with
  | .s (.int .i64 m),.s (.int .i64 n)=>some (.s (.int .i64 (max m n)),[],[],[])
  |_,_=>none
 | .call ⟨.builtin .min,⟨[x,y]⟩,⟨[_,_]⟩⟩=>match yY (zM u) x,yY (zM u) y with
  | .s (.int .i64 m),.s (.int .i64 n)=>some (.s (.int .i64 (min m n)),[],[],[])
  |_,_=>none
 |_=>none
section
variable {P:Program} {TT:List TI} (hP:qS P TT) {tm:List (Nat×AV)} {h:List (Nat×wB)} {t:Nat}
def KR {u:List AV} {v:AV} {z:List Nat} (A:V1 ti u off r=some (v,d,z,nw)):mc ti.d.agg ti.size u off=some v/\d=[]/\z=r/\nw=[]:=by grind [V1,mc,eI,Nat.ble,Option.some.injEq,Prod.mk.injEq,XV]
theorem TR:∀(l:List Nat) (n:Nat),aC n l=true->∀(j:Nat) x,l[j]? =some x->x=n+j
 | [],_,_,_,_,h=>by simp at h
 |y::r,n,u,0,x,h=>by simp at h;subst h;simp[aC]at u;omega
 |y::r,n,u,j+1,x,h=>by
  simp only[aC,zAn]at u;have:=TR r (n+1) u.2 j x WC;omega
include hP in
theorem TU:∀{op:Op} {v:AV} {d:List (Nat×wB)} {r nw:List Nat},exec TT tm h t op=some (v,d,r,nw)->vC P ⟨tm,h⟩ op v d r nw:=by
 intro op v d r nw z;unfold exec at z;split at z
 .grind [exec,XV,Option.some.injEq,Prod.mk.injEq,Po]
 .grind [exec,XV,Option.some.injEq,Prod.mk.injEq,we]
 .grind [exec,XV,Option.some.injEq,Prod.mk.injEq,Oo]
 .grind [exec,XV,Option.some.injEq,Prod.mk.injEq,Ia]
 .rename_i T x;generalize hx:yY (zM tm) x=u at z;by_cases U:u.isAgg=true
  .cases u<;>simp[AV.isAgg]at U
   simp only[zBw,zCr]at z;obtain⟨rfl,rfl,rfl,rfl⟩:=z;exact fF (v:= .agg _) t hx Z
  .have B:(bif u.one then some (AV.ptr t 0 0,[(t,wB.box [u])],([]:List Nat),[t])else none)=some (v,d,r,nw):=by
    cases u<;>first|exact z|(simp[AV.isAgg]at U)
   cases M:u.one with
   |false=>rw[M]at B;cases B
   |true=>
    rw[M]at B;simp only[zBr,zBw,zCr]at B;obtain⟨rfl,rfl,rfl,rfl⟩:=B
    have ok:u.ok=true:=by cases u<;>first|rfl|exact M
    have e:u.cells=[u]:=by cases u<;>first|rfl|(simp[AV.one]at M)
    grind [exec,fF]
 .split at z
  .rename_i ti hT
   cases A:ti.zero.all (·.oneCell')with
   |false=>simp[A]at z
   |true=>
    simp only[A,zBr,eI,zBw,zCr]at z;obtain⟨rfl,rfl,rfl,rfl⟩:=z;exact dJ hP t hT A
  .cases z
 .split at z
  .rename_i k off ti hx hT;split at z
   .rename_i cs hk;obtain⟨q1,rfl,rfl,rfl⟩:=KR z;exact DE hP hx hk hT q1
   .rename_i xs _ hk;split at z
    .rename_i y C;obtain⟨q1,rfl,rfl,rfl⟩:=KR z;exact cT hP hx hk C hT q1
    .cases z
   .cases z
  .rename_i k i off ti hx hT;split at z
   .rename_i xs _ hk;split at z
    .rename_i y C;obtain⟨q1,rfl,rfl,rfl⟩:=KR z;exact cT hP hx hk C hT q1
    .cases z
   .cases z
  .rename_i xs i off ti hx hT;split at z
   .rename_i y C;obtain⟨q1,rfl,rfl,rfl⟩:=KR z;exact WF hP hx C hT q1
   .cases z
  .cases z
 .rename_i T p x;split at z
  .rename_i k off ti hp hT;split at z
   .rename_i cs hk;rw[XV]at z
    cases hc:((yY (zM tm) x).ok&&(Nat.beq (yY (zM tm) x).cells.length ti.size&&Nat.ble (off+ti.size) (ln cs)))with
    |false=>rw[hc]at z;cases z
    |true=>
     rw[hc]at z;simp only[zBr,eI,zBw,zCr]at z;obtain⟨rfl,rfl,rfl,rfl⟩:=z;simp only[zAn]at hc;exact HA hP hp Z hk hT hc.1 hc.2.1 hc.2.2
   .cases z
  .cases z
 .split at z
  .rename_i k off ti hx hT;split at z
   .rename_i cs fs hk hd;split at z
    .rename_i o ft E;split at z
     .rename_i V G
      cases A:Nat.ble 1 V.size with
      |false=>simp[A]at z
      |true=>
       simp only[A,zBr,zBw,zCr]at z;obtain⟨rfl,rfl,rfl,rfl⟩:=z;exact QR hP hx hk hT hd E G A
     .cases z
    .cases z
   .cases z
  .cases z
 .split at z
  .rename_i cs ti hx hT;split at z
   .rename_i fs hd;split at z
    .rename_i o ft E;split at z
     .rename_i V G;obtain⟨q1,rfl,rfl,rfl⟩:=KR z;exact Pi hP hx hT hd E G q1
     .cases z
    .cases z
   .cases z
  .cases z
 .split at z
  .rename_i hx;split at z
   .rename_i hk;simp only[zBw,zCr]at z;obtain⟨rfl,rfl,rfl,rfl⟩:=z;exact OB hx hk
   .cases z
  .cases z
 .split at z
  .rename_i hx;simp only[zBw,zCr]at z;obtain⟨rfl,rfl,rfl,rfl⟩:=z;exact Ju hx
  .cases z
 .simp only[eI,zBw,zCr]at z;obtain⟨rfl,rfl,rfl,rfl⟩:=z;exact DC
 .split at z
  .rename_i ti hT;split at z
   .rename_i fs hd
    cases A:ti.zero.all (·.oneCell')with
    |false=>simp[A]at z
    | true=>
     simp only[A,zBr]at z;split at z
     .rename_i pl R;split at z
      .rename_i cs E;simp only[eI,zBw,zCr]at z;obtain⟨rfl,rfl,rfl,rfl⟩:=z;exact Oi hP hT hd A R E
      .cases z
     .cases z
   .rename_i e hd
    cases A:ti.zero.all (·.oneCell')with
    |false=>simp[A]at z
    | true=>
     simp only[A,zBr]at z;split at z
     .rename_i te I;split at z
      .rename_i cs E;simp only[eI,zBw,zCr]at z;obtain⟨rfl,rfl,rfl,rfl⟩:=z;exact HB hP hT hd I A E
      .cases z
     .cases z
   .cases z
  .cases z
 .split at z
  .rename_i ti hT;split at z
   .rename_i e hd;split at z
    .rename_i T len O _ _ _ te I;rw[eI]at z
     cases hc:(aC 0 (O.toList.map (·.1))&&(Nat.beq (ln O.toList) len&&(Nat.ble 1 te.size&&(Nat.ble (len*te.size) 65536&&Nat.beq (ln te.zero) te.size))))with
     |false=>rw[hc]at z;cases z
     | true=>
      rw[hc]at z;simp only[zBr]at z;generalize L:(O.toList.map λp=>yY (zM tm) p.2)=xs at z
      cases S:xs.all (λx=>Nat.beq (ln x.cells) te.size&&(x.ok&&x.nokey))with
      |false=>simp[S]at z
      | true=>
       simp only[S,zBr,zBw,zCr]at z;obtain⟨rfl,rfl,rfl,rfl⟩:=z;simp only[zAn]at hc;obtain⟨W,Y,c3,c4,c5⟩:=hc;refine yT hP t hT hd I c3 ?_ (by rw[<-L];simpa using Y) S c4 c5;rw[<-L];apply zBb;intro j;simp only[ZK,zAi,zEl,zBx]
       cases hj:O.toList[j]? with
       |none=>simp
       |some p=>
        have:=TR _ 0 W j p.1 (by simp[hj]);simp[this]
    .cases z
   .cases z
  .cases z
 .split at z
  .rename_i ti hT;split at z
   .rename_i hd;split at z
    .rename_i hx;simp only[zBw,zCr]at z;obtain⟨rfl,rfl,rfl,rfl⟩:=z;exact ke hP hx hT hd
    .rename_i hx;split at z
     .rename_i hk;simp only[zBw,zCr]at z;obtain⟨rfl,rfl,rfl,rfl⟩:=z;exact Ea hP hx hk hT hd
     .cases z
    .rename_i hx;simp only[zBw,zCr]at z;obtain⟨rfl,rfl,rfl,rfl⟩:=z;exact Da hP hx hT hd
    .cases z
   .cases z
  .cases z
 .split at z
  .rename_i hx C;simp only[zBw,zCr]at z;obtain⟨rfl,rfl,rfl,rfl⟩:=z;exact Iu hx C
  .cases z
 .split at z
  .rename_i hx C;simp only[zBw,zCr]at z;obtain⟨rfl,rfl,rfl,rfl⟩:=z;exact Hu hx C
  .cases z
 .cases z
end
def XW:BinOp->Int->Int->Prop
 | .eql,a,b=>a=b
 | .neq,a,b=>a≠b
 | .lss,a,b=>a<b
 | .leq,a,b=>a<=b
 | .gtr,a,b=>b<a
 | .geq,a,b=>b<=a
 |_,_,_=>False
def uE:BinOp->Int->Int->Bool
 | .eql,a,b=>a==b
 | .neq,a,b=>a != b
 | .lss,a,b=>decide (a<b)
 | .leq,a,b=>decide (a<=b)
 | .gtr,a,b=>decide (b<a)
 | .geq,a,b=>decide (b<=a)
 |_,_,_=>false
section
variable {P:Program} {TT:List TI} {K0:List Nat} {F:Fr K0} {m:Nat} {ops:Array Oper} {rest:List Oper} {Q:List FP->St->Prop} {tm:List (Nat×AV)} {h:List (Nat×wB)} {dr:Bool} {fs:List FP}
variable {ty:Nat} {pos:String} {after:Array Edge} {t:Nat}
def wX (u:qS P TT) {v:AV} (z:exec TT tm h t op=some (v,[],r,[])) (A:Nat.blt t m=true) (hk:yQ P F m ops dr rest ⟨(t,v)::tm,h⟩ (⟨true,[],r⟩::fs) Q):
 yQ P F m ops dr (⟨some t,op,ty,pos,after,none⟩::rest) ⟨tm,h⟩ fs Q:=yE (TU u z) A hk
def gD (u:qS P TT) {v:AV} {k:Nat} {e:wB} (z:exec TT tm h t op=some (v,[(k,e)],r,nw)) (A:Nat.blt t m=true) (B:nw.all (λj=>(zE h j).isNone)=true) (hd:uN [(k,e)]=true)
 (hk:yQ P F m ops dr rest ⟨(t,v)::tm,(k,e)::h⟩ (⟨true,k::nw,r⟩::fs) Q):yQ P F m ops dr (⟨some t,op,ty,pos,after,none⟩::rest) ⟨tm,h⟩ fs Q:=qB (TU u z) A B hd hk
def jR (u:qS P TT) {v:AV} {k:Nat} {e:wB} (z:exec TT tm h 0 op=some (v,[(k,e)],r,nw)) (A:nw.all (λj=>(zE h j).isNone)=true) (hd:uN [(k,e)]=true)
 (hk:yQ P F m ops dr rest ⟨tm,(k,e)::h⟩ (⟨true,k::nw,r⟩::fs) Q):yQ P F m ops dr (⟨none,op,ty,pos,after,none⟩::rest) ⟨tm,h⟩ fs Q:=C8 (TU u z) A hd hk
section
variable {op:BinOp} {tx t2:Nat} {x y:Operand} {k:IntKind} {a b:Int} (hop:og op=true) (hx:yY (zM tm) x= .s (.int k a)) (hy:yY (zM tm) y= .s (.int k b))
include hop hx hy
def ZZ:vC P ⟨tm,h⟩ (.binOp op tx x y t2) (.s (.bool (uE op a b))) [] [] []:=by
 cases op<;>first
  |exact EW hx hy
  |exact EX hx hy
  |exact EY hx hy
  |exact EZ hx hy
  |exact DA hx hy
  |exact DB hx hy
  |(simp[og]at hop)
def dE (hh:XW op a b):vC P ⟨tm,h⟩ (.binOp op tx x y t2) (.s (.bool true)) [] [] []:=by
 cases op<;>first
  |exact Bn hx hy hh
  |exact zo hx hy hh
  |exact On hx hy hh
  |exact Mn hx hy hh
  |exact Kn hx hy hh
  |exact Gn hx hy hh
  |(simp[og]at hop)
def dF (hh:¬XW op a b):vC P ⟨tm,h⟩ (.binOp op tx x y t2) (.s (.bool false)) [] [] []:=by
 cases op<;>first
  |exact An hx hy hh
  |exact yo hx hy (by simpa [XW]using hh)
  |exact Nn hx hy hh
  |exact Ln hx hy hh
  |exact Hn hx hy hh
  |exact Cn hx hy hh
  |(simp[og]at hop)
end
end
def GG (H:gW X h β w) {K:Nat} (C:h K=none) (G:1<=sz):wG X w h β w (over [(K,.arr sz [] true)] h) (ZJ β K []):=
 wG.step H K _ _ (zAg _) (λ_ _ _=>rfl) Z Z Z (λb n u=>by simp at u) (λ_ _ _=>rfl) (λe A=>by rw[C]at A;cases A) (λE=>⟨G,by simp,λh=>absurd Z h,λi y z=>by simp at z,
  λb n r B=>by rw[yO]at B;simp at B,λ_ _=>undef,λi y j v z _=>by simp at z,λi j hi _=>by simp at hi,λb n u=>by rw[yO]at u;simp at u⟩)
def cA (hd:uN d=true) (A:∀k,h k≠some .dead):∀k,over d h k≠some .dead:=λk=>by
 unfold over;split
 .rename_i e z;intro u;cases u;exact qW hd z
 .exact A k
section
variable {P:Program} {K0:List Nat} {F:Fr K0} {m:Nat} {tm:List (Nat×AV)} {h:List (Nat×wB)}
theorem wT.virt (H:wT F m ⟨tm,h⟩ a w) (t K sz:Nat) (hv:zM tm t= .s (.slice none 0 0)) (I:(zE h K).isNone=true) (M:Nat.ble 1 sz=true):wT F m ⟨(t,.ref K 0 0)::tm,(K,.arr sz [] true)::h⟩ a w:=by
 obtain⟨⟨X,β,L,z,A,B,E,C⟩,O,gs,hl⟩:=H;have hk:zE h K=none:=by simpa using I
 have G:=GG z hk (zAt M);have u:∀k,over [(K,.arr sz [] true)] (zE h) k≠some .dead:=cA Z O
 have R:QG F m (zM ((t,.ref K 0 0)::tm)) (over [(K,.arr sz [] true)] (zE h)) a w:=by
  refine⟨⟨X,_,L,G.hok,λj=>?_,B.goes G u (G.lives z u),λi hi=>?_,C.goes z G⟩,u,gs,hl⟩
  .rw[xL];split
   .rename_i hj;subst hj;have:=A j;rw[hv]at this;rw[this.s_inv];exact .ref0 K 0 sz [] true none (kQ _ _ _) (zAg _)
   .exact(A j).evo G.evo
  .rw[xL]at hi;split at hi
   .cases hi
   .exact F.go G (E i hi)
 unfold wT;dsimp only;rw[show zE ((K,.arr sz [] true)::h)=over [(K,.arr sz [] true)] (zE h)from vP [(K,.arr sz [] true)] h];exact R
theorem wT.virtB (H:wT F m ⟨tm,h⟩ a w) (k i K sz:Nat) {cs:List AV} (hk:zE h k=some (.box cs)) (hv:cs[i]? =some (.s (.slice none 0 0))) (hK:(zE h K).isNone=true) (hp:Nat.ble 1 sz=true):wT F m ⟨tm,(k,.box (cs.set i (.ref K 0 0)))::(K,.arr sz [] true)::h⟩ a w:=by
 obtain⟨⟨X,β,hX,M,W,Y,hJ,hD⟩,nd,gs,hl⟩:=H;have I:zE h K=none:=by simpa using hK
 have G:=GG M I (zAt hp);have z:∀k,over [(K,.arr sz [] true)] (zE h) k≠some .dead:=cA Z nd;have u:k≠K:=λe=>by rw[e,I]at hk;cases hk
 have C:over [(K,.arr sz [] true)] (zE h) k=some (.box cs):=by rw[<-vP,zEg,xN,Of u];exact hk
 have L:=G.hok;have hβ:ZJ β K [] k=β k:=by unfold ZJ;rw[Of u]
 have B:wG X w _ (ZJ β K []) w (over [(k,.box (cs.set i (.ref K 0 0)))] (over [(K,.arr sz [] true)] (zE h))) (ZJ (ZJ β K []) k (ZJ β K [] k)):=
  wG.step L k (.box (cs.set i (.ref K 0 0))) (ZJ β K [] k) (zAg _) (λ_ _ _=>rfl) Z Z Z (λb n S=> .inl ⟨n,S⟩) (λ_ _ _=>rfl) (λe V=>by rw[C]at V;cases V;exact .inr ⟨⟨_,rfl⟩,λb n S=>S⟩) (λE=>by
   obtain⟨b,c,el,h1,h2,h3,h4,U⟩:=L.ent k _ C;refine⟨b,c,el,by rw[yO];exact h1,h2,by simpa using h3,h4,λj v hj=>?_⟩;rw[zDk]at hj;split at hj
   .rename_i O;subst O;split at hj
    .injection hj with hj
     subst hj;have h6:=U i _ hv;rw[h6.s_inv];refine .ref0 K 0 sz [] true none ?_ (zAg _);rw[show over [(k,wB.box (cs.set i (.ref K 0 0)))] (over [(K,.arr sz [] true)] (zE h)) K=_ from by rw[<-vP,<-vP,zEg,zEg,xN,Of (λe=>u e.symm),xN,Os Z]]
    .cases hj
   .exact(U j v hj).evo E)
 have A:=cA (d:=[(k,.box (cs.set i (.ref K 0 0)))]) Z z
 have R:QG F m (zM tm) (over [(k,.box (cs.set i (.ref K 0 0)))] (over [(K,.arr sz [] true)] (zE h))) a w:=
  ⟨⟨X,_,hX,B.hok,λj=>((W j).evo G.evo).evo B.evo,(Y.goes G z (G.lives M z)).goes B A (B.lives L A),λi hi=>F.go B (F.go G (hJ i hi)),(hD.goes M G).goes L B⟩,A,gs,hl⟩
 unfold wT;dsimp only;rw[show zE ((k,.box (cs.set i (.ref K 0 0)))::(K,.arr sz [] true)::h)=over [(k,.box (cs.set i (.ref K 0 0)))] (over [(K,.arr sz [] true)] (zE h))from(vP [(k,.box (cs.set i (.ref K 0 0)))] _).trans (zAv (over _) (vP [(K,.arr sz [] true)] h))];exact R
def zS (t K sz:Nat) (hv:zM tm t= .s (.slice none 0 0)) (u:(zE h K).isNone=true) (z:Nat.ble 1 sz=true) (hk:uR P F m c ⟨(t,.ref K 0 0)::tm,(K,.arr sz [] true)::h⟩ Q):uR P F m c ⟨tm,h⟩ Q:=⟨λa w H=>hk.run a w (H.virt t K sz hv u z)⟩
def qJ (k i K sz:Nat) {cs u:List AV} (hb:zE h k=some (.box cs)) (hv:cs[i]? =some (.s (.slice none 0 0))) (z:(zE h K).isNone=true) (A:Nat.ble 1 sz=true) (hc:cs.set i (.ref K 0 0)=u) (hk:uR P F m c ⟨tm,(k,.box u)::(K,.arr sz [] true)::h⟩ Q):
 uR P F m c ⟨tm,h⟩ Q:=⟨λa w H=>hk.run a w (hc▸H.virtB k i K sz hb hv z A)⟩
end
section
variable {P:Program} {TT:List TI} (hP:qS P TT) {tm:List (Nat×AV)} {h:List (Nat×wB)}
include hP in
def uF {z:Operand} {u:Nat} {xs:List AV} {k:IntKind} {i:Int} (hx:yY (zM tm) x= .ref u 0 len) (hi:yY (zM tm) z= .s (.int k i)) (hk:zE h u=some (.arr sz xs sl)) (hT:TT[T]? =some ti) (hd:ti.d= .slice e) (A:TT[e]? =some te)
 (h0:0<=i) (hl:i<len) (hs:Nat.beq sz te.size=true):vC P ⟨tm,h⟩ (.indexAddr T x z) (.ptr u i.toNat 0) [] [u] []:=by
 have:=QS (st:=⟨tm,h⟩) hP hx hi hk hT hd A h0 hl hs
 grind
end
section
variable {P:Program} {K0:List Nat} {F:Fr K0} {m:Nat} {ops:Array Oper} {rest:List Oper} {Q:List FP->St->Prop} {dr:Bool} {fs:List FP}
variable {ty t:Nat} {pos:String} {after:Array Edge} {st:St}
def yG {u:Nat} (hk:yQ P F m ops dr (⟨some t,.call ⟨.builtin .append, #[s,x], #[T,u]⟩,ty,pos,after,none⟩::rest) st fs Q):yQ P F m ops dr (⟨some t,.call ⟨.builtin .append, #[s,x], #[T,u]⟩,ty,pos,after,none⟩::rest) st fs Q:=hk
def vG (n:Nat) {u:Array Nat} (hk:yQ P F m ops dr (⟨some t,.call ⟨.value (.func n),asq,u⟩,ty,pos,after,none⟩::rest) st fs Q):yQ P F m ops dr (⟨some t,.call ⟨.value (.func n),asq,u⟩,ty,pos,after,none⟩::rest) st fs Q:=hk
def YA {S D:Nat} (hk:yQ P F m ops dr (⟨some t,.convert S D x,ty,pos,after,none⟩::rest) st fs Q):yQ P F m ops dr (⟨some t,.convert S D x,ty,pos,after,none⟩::rest) st fs Q:=hk
def XX {op:UnOp} (hk:yQ P F m ops dr (⟨some t,.unOp op T x,ty,pos,after,none⟩::rest) st fs Q):yQ P F m ops dr (⟨some t,.unOp op T x,ty,pos,after,none⟩::rest) st fs Q:=hk
end
def jY {TT:List TI} {A:List (Nat×AV)} {h:List (Nat×wB)} {z u:Nat} {k:IntKind} {n:Int} {G B:TI} (C:qS P TT) (hs:TT[z]? =some G) (hd:TT[u]? =some B) (hk:B.d= .int k') (hx:yY (zM A) x= .s (.int k n)) (E:UJ k' n):
  vC P ⟨A,h⟩ (.convert z u x) (.s (.int k' n)) [] [] []:=by
 have:=cD (st:=⟨A,h⟩) C hs hd hk hx
 rwa [jD E]at this
def U1 (v:AV) (k:AV->Prop):Prop:=match v with
 | .s v=>k (.s v)
 | .ptr j i o=>k (.ptr j i o)
 | .agg cs=>k (.agg cs)
 | .sl b xs=>k (.sl b xs)
 | .slc b xs=>k (.slc b xs)
 | .ref j o n=>k (.ref j o n)
 | .fp xs i o=>k (.fp xs i o)
 | .fn f cs=>k (.fn f cs)
 | .tup vs=>k (.tup vs)
 | .bot=>k .bot
 | .gh n=>k (.gh n)
 | .fm o p=>k (.fm o p)
def ng (v:AV) (k:AV->Prop):U1 v k=k v:=by cases v<;>rfl
def ta:List AV->(List AV->Prop)->Prop
 | [],k=>k []
 |x::r,k=>U1 x λx=>ta r λr=>k (x::r)
theorem KS:∀(l:List AV) (k:List AV->Prop),ta l k=k l
 | [],_=>rfl
 |x::r,k=>by rw[ta,ng,KS r]
def gV (K:List Nat) (h:yS) (u:List (Nat×AV)):List Nat->(List (Nat×AV)->Prop)->Prop
 | [],k=>k []
 |t::z,k=>U1 (wQ K h (zM u t)) λv=>gV K h u z λr=>k ((t,v)::r)
theorem cX (K:List Nat) (h:yS) (z:List (Nat×AV)):∀(u:List Nat) (k:List (Nat×AV)->Prop),gV K h z u k=k (u.map λt=>(t,wQ K h (zM z t)))
 | [],_=>rfl
 |t::u,k=>by rw[gV,ng,cX K h z u];rfl
def gP (K:List Nat) (h:yS):List Nat->(List (Nat×wB)->Prop)->Prop
 | [],k=>k []
 |j::Ks,k=>match h j with
  |none=>gP K h Ks k
  |some (.box cs)=>ta (kJ K h cs) λcs=>gP K h Ks λr=>k ((j,.box cs)::r)
  |some (.arr sz xs st)=>bif st.nest then ta (kJ K h xs) λxs=>(bif wU xs then gP K h Ks λr=>k ((j,.arr sz xs ⟨st.stale,false⟩)::r)else gP K h Ks λr=>k ((j,.arr sz xs ⟨st.stale,true⟩)::r))else gP K h Ks λr=>k ((j,.arr sz xs st)::r)
  |some .dead=>gP K h Ks λr=>k ((j,.dead)::r)
  |some (.obj o)=>gP K h Ks λr=>k ((j,.obj o)::r)
theorem jH (K:List Nat) (h:yS):∀(Ks:List Nat) (k:List (Nat×wB)->Prop),gP K h Ks k=k (Ks.filterMap λj=>(h j).map λe=>(j,qE K h e))
 | [],_=>rfl
 | j ::Ks,k=>by
  rw[gP,List.filterMap_cons]
  cases h j with
  |none=>exact jH K h Ks k
  | some e=>
   cases e with
   |box cs=>dsimp only[Option.map_some];rw[KS,jH K h Ks];rfl
   |obj cs=>dsimp only[Option.map_some];rw[jH K h Ks];rfl
   | arr sz xs st=>
    dsimp only[Option.map_some]
    cases u:st.nest with
    |false=>
     have e:qE K h (.arr sz xs st)= .arr sz xs st:=by simp only[qE,u,zCc]
     rw[e];simp only[zCc];rw[jH K h Ks]
    |true=>
     have e:qE K h (.arr sz xs st)= .arr sz (kJ K h xs) ⟨st.stale,!wU (kJ K h xs)⟩:=by simp only[qE,u,zBr]
     rw[e];simp only[zBr];rw[KS]
     cases hk:wU (kJ K h xs)with
     |true=>simp only[zBr,zFh];rw[jH K h Ks]
     |false=>simp only[zCc,zEe];rw[jH K h Ks]
   |dead=>dsimp only[Option.map_some];rw[jH K h Ks];rfl
section
variable {P:Program} {K0:List Nat} {F:Fr K0} {m:Nat} {Q:Exit->St->Prop} {st:St} {c:Code}
def bK (Q:Exit->St->Prop) (I:St->Prop):Exit->St->Prop
 | .normal,s=>I s
 |e,s=>Q e s
def yW (N:Nat) (K Ks B u:List Nat) (C:K0.all (K.contains ·)=true) (I:Nat->List (Nat×AV)->List (Nat×wB)->St->Prop)
  (h:gV K (zE st.h) st.tm B λT=>gP K (zE st.h) Ks λU=>I 0 T U (restr K u st)/\(∀i s,i<N->I i T U s->uR P F m c s (bK Q λs=>I (i+1) T U (restr K u s)))/\
   ∀s,I N T U s->uR P F m c s (bK Q λ_=>False)):uR P F m (.loop c) st Q:=by
 rw[cX,jH]at h;generalize (B.map _)=T at h;generalize (Ks.filterMap _)=U at h;obtain⟨h0,h1,h2⟩:=h;refine wF (λn s=>∃i,n+i=N/\I i T U s) N K u C ⟨0,rfl,h0⟩ λn s ⟨i,hi,hs⟩=>?_
 by_cases z:i<N
 .refine(h1 i s z hs).mono λe E A=>?_
  cases e with
  |normal=>exact⟨n-1,by omega,i+1,by omega,A⟩
  |_=>exact A
 .obtain rfl:i=N:=by omega
  refine(h2 s hs).mono λe E A=>?_
  grind [gV,zE,gP,restr,bK]
def zN (N:Nat) (K Ks z u:List Nat) (A:K0.all (K.contains ·)=true) (S:Nat->List (Nat×AV)->List (Nat×wB)->St)
  (h:gV K (zE st.h) st.tm z λT=>gP K (zE st.h) Ks λU=>restr K u st=S 0 T U/\(∀i,i<N->uR P F m c (S i T U) (bK Q λs=>restr K u s=S (i+1) T U))/\
   uR P F m c (S N T U) (bK Q λ_=>False)):uR P F m (.loop c) st Q:=by
 refine yW N K Ks z u A (λi T U s=>s=S i T U) ?_
 grind
def gE (N:Nat) (K Ks A u:List Nat) (B:K0.all (K.contains ·)=true) (I:Nat->List (Nat×AV)->List (Nat×wB)->St->Prop)
  (h:gV K (zE st.h) st.tm A λT=>gP K (zE st.h) Ks λU=>I N T U (restr K u st)/\∀n s,I n T U s->uR P F m c s (bK Q λs=>∃z,z<n/\I z T U (restr K u s))):uR P F m (.loop c) st Q:=by
 rw[cX,jH]at h;generalize (A.map _)=T at h;generalize (Ks.filterMap _)=U at h;obtain⟨h0,h1⟩:=h;refine wF (λn s=>I n T U s) N K u B h0 λn s hs=>(h1 n s hs).mono λe E C=>?_
 grind [gV,zE,gP,restr,bK]
def zU {α:Type} (l:List α) (K Ks z u:List Nat) (A:K0.all (K.contains ·)=true) (S:Nat->List α->List (Nat×AV)->List (Nat×wB)->St)
  (h:gV K (zE st.h) st.tm z λT=>gP K (zE st.h) Ks λU=>restr K u st=S 0 [] T U/\
   (∀i ga x post,l=ga++x::post->ln ga=i->uR P F m c (S i ga T U) (bK Q λs=>restr K u s=S (i+1) (ga++[x]) T U))/\
   uR P F m c (S (ln l) l T U) (bK Q λ_=>False)):uR P F m (.loop c) st Q:=by
 refine zN (ln l) K Ks z u A (λi T U=>S i (l.take i) T U) ?_;rw[cX,jH]at h⊢
 grind [gV,zE,gP,restr,bK,List.drop_eq_getElem_cons,List.take_append_drop,List.take_append_getElem]
def qC {α:Type} (l:List α) (K Ks z u:List Nat) (A:K0.all (K.contains ·)=true) (I:Nat->List α->List (Nat×AV)->List (Nat×wB)->St->Prop)
  (h:gV K (zE st.h) st.tm z λT=>gP K (zE st.h) Ks λU=>I 0 [] T U (restr K u st)/\
   (∀i ga x post s,l=ga++x::post->ln ga=i->I i ga T U s->uR P F m c s (bK Q λs=>I (i+1) (ga++[x]) T U (restr K u s)))/\
   ∀s,I (ln l) l T U s->uR P F m c s (bK Q λ_=>False)):uR P F m (.loop c) st Q:=by
 refine yW (ln l) K Ks z u A (λi T U s=>I i (l.take i) T U s) ?_;rw[cX,jH]at h⊢
 grind [gV,zE,gP,restr,bK,List.drop_eq_getElem_cons,List.take_append_drop,List.take_append_getElem]
end
section
variable {α:Type} {l ga post:List α} {x:α} {i:Nat}
def zV (h:l=ga++x::post) (hi:ln ga=i):i<ln l:=by subst h;simp;omega
def yI {β:Type} (f:α->β) (h:l=ga++x::post) (hi:ln ga=i):(l.map f)[i]? =some (f x):=by subst h;subst hi;simp
def yV (h:l=ga++x::post):x∈l:=by subst h;simp
def zA {β:Type} (f:α->β) (l:List α):(l.map f).length=ln l:=by simp
def zZ (f:α->AV) (l:List α) (h:∀x,(f x).cells.length=n):∀y,(l.map f)[0]? =some y->ln y.cells=n:=λy u=>by
 rw[zAi,zAs]at u;obtain⟨x,_,rfl⟩:=u;exact h x
end
def S1 (TT:List TI) (z:List (Nat×AV)):Op->Option (List AV)
 | .buildSlice T len u=>match TT[T]? with
  | some ti=>match ti.d with
   | .slice e=>match TT[e]? with
    |some te=>bif aC 0 (u.toList.map (·.1))&&(Nat.beq (ln u.toList) len&&(Nat.ble 1 te.size&&(Nat.ble (len*te.size) 65536&&Nat.beq (ln te.zero) te.size)))then
     NK (u.toList.map λp=>yY (zM z) p.2) λxs=>bif xs.all (λx=>Nat.beq (ln x.cells) te.size&&(x.ok&&x.nokey))then some xs else none else none
    |none=>none
   |_=>none
  |none=>none
 |_=>none
section
variable {P:Program} {TT:List TI} (hP:qS P TT) {tm:List (Nat×AV)} {h:List (Nat×wB)}
include hP in
def Fd {xs:List AV} (u:S1 TT tm op=some xs):vC P ⟨tm,h⟩ op (.sl true xs) [] [] []:=by
 unfold S1 at u;split at u
 .rename_i T len A;split at u
  .rename_i ti hT;split at u
   .rename_i e hd;split at u
    .rename_i te B;rw[eI]at u
     cases hc:(aC 0 (A.toList.map (·.1))&&(Nat.beq (ln A.toList) len&&(Nat.ble 1 te.size&&(Nat.ble (len*te.size) 65536&&Nat.beq (ln te.zero) te.size))))with
     |false=>rw[hc]at u;cases u
     | true=>
      rw[hc]at u;simp only[zBr]at u;generalize z:(A.toList.map λp=>yY (zM tm) p.2)=ys at u
      cases C:ys.all (λx=>Nat.beq (ln x.cells) te.size&&(x.ok&&x.nokey))with
      |false=>simp[C]at u
      | true=>
       simp only[C,zBr,zBw]at u;subst u;simp only[zAn]at hc;obtain⟨E,G,I,L,M⟩:=hc;refine NR hP hT hd B I ?_ (by rw[<-z];simpa using G) C L M;rw[<-z];apply zBb;intro j;simp only[ZK,zAi,zEl,zBx]
       cases hj:A.toList[j]? with
       |none=>simp
       |some p=>
        have:=TR _ 0 E j p.1 (by simp[hj]);simp[this]
    .cases u
   .cases u
  .cases u
 .cases u
end
theorem vC.wkS {xs:List AV} (hs:vC P st op (.sl true xs) d r nw):vC P st op (.sl false xs) d r nw:=
 ⟨λX C h h1 h2 A o a w β B u z=>by
  have:=hs.run X C h h1 h2 A o a w β B u z;unfold WE at this⊢;split at this
  .obtain⟨β',G,hv⟩:=this;exact⟨β',G,hv.wk⟩
  .obtain⟨β',G,hv⟩:=this;exact⟨β',G,hv.wk⟩
  .exact this.mono λe w' ⟨c,he,β',G,hv⟩=>⟨c,he,β',G,hv.wk⟩
  .exact this.elim⟩
def Vu (y:AV) (off:Nat) (cs:List AV):Option AV:=match y with
 | .agg u=>NK (QP u off cs) λl=>some (.agg l)
 |_=>match cs with
  | [v]=>Tj v some
  |_=>none
def Uu {y:AV} {cs:List AV} {v:AV} (h:Vu y off cs=some v):DF y off cs=v:=by
 unfold Vu at h
 grind [Vu,DF,eI,Option.some.inj,XV]
section
variable {P:Program} {TT:List TI} {K0:List Nat} {F:Fr K0} {m:Nat} {ops:Array Oper} {rest:List Oper} {Q:List FP->St->Prop} {tm:List (Nat×AV)} {h:List (Nat×wB)} {dr:Bool} {fs:List FP}
variable {ty:Nat} {pos:String} {after:Array Edge} {t:Nat}
def yR {u:Array (Nat×Operand)} (hk:yQ P F m ops dr (⟨some t,.buildSlice T len u,ty,pos,after,none⟩::rest) st fs Q):yQ P F m ops dr (⟨some t,.buildSlice T len u,ty,pos,after,none⟩::rest) st fs Q:=hk
def eJ (hk:yQ P F m ops dr (⟨some t,.makeSlice T x y,ty,pos,after,none⟩::rest) st fs Q):yQ P F m ops dr (⟨some t,.makeSlice T x y,ty,pos,after,none⟩::rest) st fs Q:=hk
def aM (hk:yQ P F m ops dr (⟨some t,.nilCheck x,ty,pos,after,none⟩::rest) st fs Q):yQ P F m ops dr (⟨some t,.nilCheck x,ty,pos,after,none⟩::rest) st fs Q:=hk
def ia {x:Nat} {u:Array Nat} (hk:yQ P F m ops dr (⟨some t,.call ⟨.value (.tmp x),asq,u⟩,ty,pos,after,none⟩::rest) st fs Q):yQ P F m ops dr (⟨some t,.call ⟨.value (.tmp x),asq,u⟩,ty,pos,after,none⟩::rest) st fs Q:=hk
def kD (u:qS P TT) {xs:List AV} (z:S1 TT tm op=some xs) (A:Nat.blt t m=true) (hk:yQ P F m ops dr rest ⟨(t,.sl false xs)::tm,h⟩ (⟨true,[],[]⟩::fs) Q):
 yQ P F m ops dr (⟨some t,op,ty,pos,after,none⟩::rest) ⟨tm,h⟩ fs Q:=yE (Fd u z).wkS A hk
def jJ (B:qS P TT) {A:AV} {ys:List AV} (hs:yY (zM tm) s= .s (.slice none 0 0)) (hx:yY (zM tm) x=A) (hT:TT[T]? =some ti) (hd:ti.d= .slice e) (C:TT[e]? =some te)
 (z:je (zE h) A=some ys) (u:∀y,ys[0]? =some y->ln y.cells=te.size) (I:Nat.ble 1 te.size=true) (hb:Nat.ble te.bytes 65536=true) (L:Nat.beq (ln te.zero) te.size=true) (G:ln ys<=1073741824) (E:Nat.blt t m=true)
 (hk:yQ P F m ops dr rest ⟨(t,.sl false ys)::tm,h⟩ (⟨true,[],JK A⟩::fs) Q):yQ P F m ops dr (⟨some t,.call ⟨.builtin .append, #[s,x], #[T,T]⟩,ty,pos,after,none⟩::rest) ⟨tm,h⟩ fs Q:=
 yE (NN B hs hx hT hd C z u I hb L G) E hk
def wA (kn:Nat) (G:qS P TT) {E:AV} {ys:List AV} (hs:yY (zM tm) s= .s (.slice none 0 0)) (hx:yY (zM tm) x=E) (hT:TT[T]? =some ti) (hd:ti.d= .slice e) (I:TT[e]? =some te)
 (B:je (zE h) E=some ys) (A:∀y,ys[0]? =some y->ln y.cells=te.size) (O:Nat.ble 1 te.size=true) (hb:Nat.ble te.bytes 65536=true) (R:Nat.beq (ln te.zero) te.size=true) (M:ln ys<=1073741824) (L:Nat.blt t m=true) (u:(zE h kn).isNone=true)
 (z:te.size=sz) (hk:yQ P F m ops dr rest ⟨(t,.ref kn 0 (ln ys))::tm,(kn,.arr sz ys false)::h⟩ (⟨true,[kn,kn],JK E⟩::fs) Q) (C:te.zero.all (·.oneCell')=true:=by rfl):yQ P F m ops dr (⟨some t,.call ⟨.builtin .append, #[s,x], #[T,T]⟩,ty,pos,after,none⟩::rest) ⟨tm,h⟩ fs Q:=by
 subst z;exact qB (nw:=[kn]) (WJ G kn hs hx hT hd I B A O hb R C M) L (Gd u) Z hk
def xW (E:qS P TT) {k:Nat} {C:AV} {ys:List AV} (hs:yY (zM tm) s= .ref k 0 0) (hk:zE h k=some (.arr sz [] ⟨sb,false⟩)) (hx:yY (zM tm) x=C) (hT:TT[T]? =some ti) (hd:ti.d= .slice e) (G:TT[e]? =some te)
 (A:je (zE h) C=some ys) (z:∀y,ys[0]? =some y->ln y.cells=sz) (u:Nat.beq sz te.size=true) (hb:Nat.ble te.bytes 65536=true) (O:Nat.beq (ln te.zero) te.size=true) (L:ln ys<=1073741824) (I:Nat.blt t m=true)
 (M:yQ P F m ops dr rest ⟨(t,.ref k 0 (ln ys))::tm,(k,.arr sz ys false)::h⟩ (⟨true,[k],k::JK C⟩::fs) Q) (B:te.zero.all (·.oneCell')=true:=by rfl):yQ P F m ops dr (⟨some t,.call ⟨.builtin .append, #[s,x], #[T,T]⟩,ty,pos,after,none⟩::rest) ⟨tm,h⟩ fs Q:=
 qB (nw:=[]) (wV (xs:=[]) false false E hs hk hx hT hd G (λ_=>rfl) A z u hb O B (by simpa using L) (λ_=>rfl)) I Z Z M
def wE (E:qS P TT) {k:Nat} {C:AV} {ys:List AV} (hs:yY (zM tm) s= .ref k 0 0) (hk:zE h k=some (.arr sz [] sl)) (hx:yY (zM tm) x=C) (hT:TT[T]? =some ti) (hd:ti.d= .slice e) (G:TT[e]? =some te)
 (A:QT true (zE h) C=some ys) (z:∀y,ys[0]? =some y->ln y.cells=sz) (u:Nat.beq sz te.size=true) (hb:Nat.ble te.bytes 65536=true) (O:Nat.beq (ln te.zero) te.size=true) (L:ln ys<=1073741824) (I:Nat.blt t m=true)
 (M:yQ P F m ops dr rest ⟨(t,.ref k 0 (ln ys))::tm,(k,.arr sz ys ⟨false,true⟩)::h⟩ (⟨true,[k],k::JK C⟩::fs) Q) (B:te.zero.all (·.oneCell')=true:=by rfl):yQ P F m ops dr (⟨some t,.call ⟨.builtin .append, #[s,x], #[T,T]⟩,ty,pos,after,none⟩::rest) ⟨tm,h⟩ fs Q:=
 qB (nw:=[]) (wV (xs:=[]) false true E hs hk hx hT hd G (λh=>by cases h) A z u hb O B (by simpa using L) (λ_=>rfl)) I Z Z M
def YB (G:qS P TT) {p:Operand} {k:Nat} {xs:List AV} {y v z:AV} {u:Bool} (L:yY (zM tm) p= .ptr k i off) (hx:yY (zM tm) x=v) (hk:zE h k=some (.arr sz xs ⟨false,u⟩)) (O:xs[i]? =some y) (hT:TT[T]? =some ti)
 (h1:v.ok=true) (h2:Nat.beq (ln v.cells) ti.size=true) (A:Nat.ble (off+ti.size) (ln y.cells)=true) (B:(u||v.nokey)=true) (C:Nat.ble 1 ti.size=true) (E:v.cells.all (λv=>!v.isAgg)=true) (I:Vu y off v.cells=some z)
 (M:yQ P F m ops dr rest ⟨tm,(k,.arr sz (xs.set i z) ⟨false,u⟩)::h⟩ (⟨true,[k],[k]⟩::fs) Q):yQ P F m ops dr (⟨none,.store T p x,ty,pos,after,none⟩::rest) ⟨tm,h⟩ fs Q:=by
 have hs:=UX (st:=⟨tm,h⟩) G L hx hk O hT h1 h2 A B C E;rw[Uu I]at hs;exact C8 (nw:=[]) hs Z Z M
def XY (G:qS P TT) {p:Operand} {k:Nat} {xs z cs:List AV} {u:Bool} (I:yY (zM tm) p= .ptr k i 0) (hx:yY (zM tm) x= .agg cs) (hk:zE h k=some (.arr sz xs ⟨false,u⟩)) (M:xs[i]? =some (.agg z)) (hT:TT[T]? =some ti)
 (h2:Nat.beq (ln cs) ti.size=true) (A:Nat.beq ti.size (ln z)=true) (B:(u||(AV.agg cs).nokey)=true) (C:Nat.ble 1 ti.size=true) (E:cs.all (λv=>!v.isAgg)=true)
 (L:yQ P F m ops dr rest ⟨tm,(k,.arr sz (xs.set i (.agg cs)) ⟨false,u⟩)::h⟩ (⟨true,[k],[k]⟩::fs) Q):yQ P F m ops dr (⟨none,.store T p x,ty,pos,after,none⟩::rest) ⟨tm,h⟩ fs Q:=by
 have O:=zA9 h2;have e3:=zA9 A;have hs:=UX (st:=⟨tm,h⟩) G I hx hk M hT Z (by simpa [AV.cells]using h2) (zDt (by simp[AV.cells];omega)) B C E
 have:DF (.agg z) 0 (AV.agg cs).cells= .agg cs:=by
  unfold DF AV.cells;dsimp only
  congr 1
  apply zBb;intro j;rw[VW _ _ _ _ (by omega)]
  grind
 rw[this]at hs;exact C8 (nw:=[]) hs Z Z L
theorem wT.nsplit (H:wT F m ⟨tm,h⟩ a w) {t:Nat} {xs:List AV} (hv:zM tm t= .sl false xs):(∃cap,xs=[]/\wT F m ⟨(t,.s (.slice none 0 cap))::tm,h⟩ a w)\/wT F m ⟨(t,.sl true xs)::tm,h⟩ a w:=by
 obtain⟨⟨X,β,G,A,B,C,M,E⟩,L,gs,hl⟩:=H
 have u:∀v,(∀i,v≠ .gh i)->yK w (xX X β) (zE h) β v (a.eval (.tmp t))->wT F m ⟨(t,v)::tm,h⟩ a w:=λv O hv=>by
  refine⟨⟨X,β,G,A,λj=>?_,C,λi hi=>?_,E⟩,L,gs,hl⟩
  all_goals grind [wT,zM,xL]
 have h0:=B t;dsimp only at h0;rw[hv]at h0;generalize hc:a.eval (.tmp t)=c at*
 cases h0 with
 | fz _ _ I=>
  cases I with
  |nil b cap=>
   cases b with
   |none=>exact .inl ⟨cap,rfl,u _ (λ_ h=>by cases h) (.fz _ _ (.s _))⟩
   |some b=>exact .inr (u _ (λ_ h=>by cases h) (.fz _ _ (.nil1 b cap)))
  |sl _ _ b o sz cap f hx hL z hh=>exact .inr (u _ (λ_ h=>by cases h) (.fz _ _ (.sl true _ b o sz cap f hx hL z hh)))
def xI {Q:Exit->St->Prop} (t:Nat) {xs:List AV} (hv:zM tm t= .sl false xs) (h1:∀cap,xs=[]->uR P F m c ⟨(t,.s (.slice none 0 cap))::tm,h⟩ Q) (h2:uR P F m c ⟨(t,.sl true xs)::tm,h⟩ Q):uR P F m c ⟨tm,h⟩ Q:=
 ⟨λa w H=>by
  rcases H.nsplit hv with⟨cap,hx,u⟩|z
  .exact(h1 cap hx).run a w u
  .exact h2.run a w z⟩
end
section
variable {P:Program} {K0:List Nat} {F:Fr K0} {m:Nat} {tm:List (Nat×AV)} {h:List (Nat×wB)}
def Ed {h:yS} (H:gW X h β w) {K:Nat} (C:h K=none) (G:1<=sz):wG X w h β w (over [(K,.arr sz [] false)] h) (ZJ β K []):=
 wG.step H K _ _ (zAg _) (λ_ _ _=>rfl) Z Z Z (λb n u=>by simp at u) (λ_ _ _=>rfl) (λe A=>by rw[C]at A;cases A) (λE=>⟨G,by simp,λh=>absurd Z h,λi y z=>by simp at z,
  λb n r B=>by rw[yO]at B;simp at B,λ_ _=>undef,λi y j v z _=>by simp at z,λi j hi _=>by simp at hi,λb n u=>by rw[yO]at u;simp at u⟩)
theorem wT.virtF (H:wT F m ⟨tm,h⟩ a w) (t K sz:Nat) {cap:Nat} (hv:zM tm t= .s (.slice none 0 0)) (I:(zE h K).isNone=true) (M:Nat.ble 1 sz=true):wT F m ⟨(t,.ref K 0 0)::tm,(K,.arr sz [] false)::h⟩ a w:=by
 obtain⟨⟨X,β,L,z,A,B,E,C⟩,O,gs,hl⟩:=H;have hk:zE h K=none:=by simpa using I
 have G:=Ed z hk (zAt M);have u:∀k,over [(K,.arr sz [] false)] (zE h) k≠some .dead:=cA Z O
 have R:QG F m (zM ((t,.ref K 0 0)::tm)) (over [(K,.arr sz [] false)] (zE h)) a w:=by
  refine⟨⟨X,_,L,G.hok,λj=>?_,B.goes G u (G.lives z u),λi hi=>?_,C.goes z G⟩,u,gs,hl⟩
  .rw[xL];split
   .rename_i hj;subst hj;have:=A j;rw[hv]at this;rw[this.s_inv];exact .ref0 K 0 sz [] false none (kQ _ _ _) (zAg _)
   .exact(A j).evo G.evo
  .rw[xL]at hi;split at hi
   .cases hi
   .exact F.go G (E i hi)
 unfold wT;dsimp only;rw[show zE ((K,.arr sz [] false)::h)=over [(K,.arr sz [] false)] (zE h)from vP [(K,.arr sz [] false)] h];exact R
def qK (t K sz:Nat) (hv:zM tm t= .s (.slice none 0 0)) (u:(zE h K).isNone=true) (z:Nat.ble 1 sz=true) (hk:uR P F m c ⟨(t,.ref K 0 0)::tm,(K,.arr sz [] false)::h⟩ Q):uR P F m c ⟨tm,h⟩ Q:=
 ⟨λa w H=>hk.run a w (H.virtF (cap:=0) t K sz hv u z)⟩
end
structure YX (X X':Nat->Prop) (W W':World):Prop where
 size:W.heap.size<=W'.heap.size
 fz:∀b,b<W.heap.size->¬X b->W'.heap[b]? =W.heap[b]? /\¬X' b
 sup:∀b,X b->X' b
 lt:∀b,X' b->b<W'.heap.size
 os:W'.os=W.os
 tape:W'.tape=W.tape
 output:W'.output=W.output
def E7 (P:Program) (F:Fr K0) (l:Nat) (xs:List (List AV)):Prop:=
 ∀(i:Nat) (ys:List AV) (X O:Nat->Prop) (W:World) (cs:Array Value),xs[i]? =some ys->F.J i O X W->cs.size=ln ys->(∀(j:Nat) v,ys[j]? =some v->xS W (λb=>X b\/O b) v (cs.getD j undef))->
  YieldAt Fence.wide 0 P l cs W λe u=>(e= .returned (.bool true)/\∃X',YX X X' W u/\F.J (i+1) O X' u)\/(e= .returned (.bool false)/\∃X',YX X X' W u/\F.J (ln xs+1+i) O X' u)
section
variable {X X':Nat->Prop} {W W':World} {h:yS} {β:qG}
theorem YX.evo (H:gW X h β W) (q:YX X X' W W'):CR W (xX X β) h β W' (xX X' β) h β:=
 ⟨q.size,λb hb hd=>⟨(q.fz b hb λhx=>hd (.inl hx)).1,λh'=>h'.elim (q.fz b hb λhx=>hd (.inl hx)).2 λz=>hd (.inr z)⟩,λk b n u=>by
  unfold wW World.shape?
  rw[(q.fz b (H.lt b (.inr ⟨k,n,u⟩)) (H.free k b n u)).1],jS h β⟩
theorem YX.hok (H:gW X h β W) (q:YX X X' W W'):gW X' h β W':=
 ⟨λk e z=>(H.ent k e z).evo (q.evo H) Z λb n u=>(q.fz b (H.lt b (.inr ⟨k,n,u⟩)) (H.free k b n u)).1,H.off,H.disj,λk b n u=>(q.fz b (H.lt b (.inr ⟨k,n,u⟩)) (H.free k b n u)).2,
  λb hd=>hd.elim (q.lt b) λA=>zBn (H.lt b (.inr A)) q.size⟩
end
section
variable {P:Program} {K0:List Nat} {F:Fr K0} {m:Nat} {ops:Array Oper} {rest:List Oper} {tm:List (Nat×AV)} {h:List (Nat×wB)}
theorem QG.quiet {X':Nat->Prop} {hh:yS} {t:Nat->AV} {W A:World} {j:Nat} (G:F.it=true) (R:∀b,F.X b->F.V b) (B:L6 F X) (H:gW X hh β W) (M:∀s,yK W (xX X β) hh β (t s) (a.eval (.tmp s))) (u:dG F hh β W) (O:m5 X F a.defers W) (Y:∀k,hh k≠some .dead) (gs:m<=GS) (hl:a.tmps.size=m)
 (q:YX X X' W A) (hj:F.J j (Rj β) X' A) (d:Nat) (hd:d<m) (b:Bool):QG F m (λs=>if s=GS then .gh j else if s=d then .s (.bool b)else t s) hh (a.put (some d) (.bool b)) A:=by
 have E:=q.evo H;refine⟨⟨X',β,⟨λc hc=>q.sup c (B.1 c hc),λc hc=>?_⟩,q.hok H,λs=>?_,?_,λi hi=>?_,?_⟩,Y,gs,by simp[Act.put,hl]⟩
 .by_cases hb:c<W.heap.size
  .by_cases z:X c
   .exact B.2 c z
   .exact absurd hc (q.fz c hb z).2
  .exact .inr (zBi u.size (Nat.le_of_not_lt hb))
 .split
  .exact .fz _ _ (.gh _ _)
  .split
   .rename_i hs;subst hs;have:s<a.tmps.size:=by rw[hl];exact hd
    have e:(a.put (some s) (.bool b)).eval (.tmp s)= .bool b:=by simp[Act.put,Act.eval,this]
    rw[e];exact .fz _ _ (.s _)
   .rename_i hs;rw[Act.eval_put (λd' C e=>hs (by cases C;injection e with e))];exact(M s).evo E
 .exact⟨u.knd,zBi u.size q.size,λc hc hi S=>by
   have h1:¬X c:=λhx=>(B.2 c hx).elim (λh=>hi (R c h)) λh=>by omega
   rw[(q.fz c (zBn hc u.size) h1).1]
   exact u.keep c hc hi S,u.own,u.pas,λk c n L=>by
   obtain⟨U,_,I⟩:=u.pas k c n L
   rw[E.bs k c U I,u.bs k c n L],q.os.trans u.os,q.tape.trans u.tape,q.output.trans u.output⟩
 .grind
 .obtain⟨bs,h1,h0,h2,h3⟩:=O;have:=h0 G;subst this;exact⟨[],h1,λ_=>rfl,h2,λb hb=>by simp at hb⟩
def ii {xs:List (List AV)} {ys:List AV} {l y t ty:Nat} {C:Array Nat} {pos:String} {u:Array Edge} {Q:St->Prop} (z:F.it=true/\∀b,F.X b->F.V b) (hY:E7 P F l xs) (hy:zM tm y= .s (.func (.yield l) #[] #[])) (hg:zM tm GS= .gh i) (S:xs[i]? =some ys)
 (B:asq.toList.map (yY (zM tm))=ys) (L:wU ys=true) (hm:Nat.blt t m=true)
 (h1:ER P F m ops rest ⟨(GS,.gh (i+1))::(t,.s (.bool true))::tm,h⟩ Q) (h2:ER P F m ops rest ⟨(GS,.gh (ln xs+1+i))::(t,.s (.bool false))::tm,h⟩ Q):
  ER P F m ops (⟨some t,.call ⟨.value (.tmp y),asq,C⟩,ty,pos,u,none⟩::rest) ⟨tm,h⟩ Q:=λa w H=>by
 obtain⟨⟨X,β,hX,W,I,Y,hJ,hD⟩,nd,gs,hl⟩:=H;have hj:=hJ i hg
 have U:a.eval (.tmp y)= .func (.yield l) #[] #[]:=by
  have:=I y;dsimp only at this;rw[hy]at this;exact this.s_inv
 have E:ln asq.toList=ln ys:=by rw[<-B];simp
 obtain⟨fn,tmps,assign,body,G,A⟩:=hY i ys X (Rj β) w (asq.map a.eval) S hj (by simpa using E) (λj v hv=>by
  rw[<-B,zAi,zAs]at hv;obtain⟨x,hx,rfl⟩:=hv;have O:asq[j]? =some x:=by simpa using hx
  have e:(asq.map a.eval).getD j undef=a.eval x:=by simp[zBe,O]
  rw[e];have M:(ys[j]?)=some (yY (zM tm) x):=by rw[<-B];simp[hx]
  exact(MQ I x).toF (gI L M))
 refine wpListIn_plain Z λK hK=>⟨λ_ _=>trivial,?_⟩
 have he:((⟨some t,.call ⟨.value (.tmp y),asq,C⟩,ty,pos,u,none⟩:Oper).semAt (Cd F.ro).round a.eval).run P w= .ok (.round l fn tmps assign body) w:=by
  rw[Oper.semAt_eq _ _ _ (λc hc=>by cases hc)];rw[<-G];simp[execOp,resolve,U,Deferred.ofValue,invoke]
 rw[he];refine⟨λhx=>by simp[Cd,Fence.wide]at hx,?_⟩;refine RoundIn.mono (F:=Fence.wide) A ?_;rintro e W' (⟨rfl,X',q,hj'⟩|⟨rfl,X',q,hj'⟩)
 .refine hK _ _ (h1 _ _ ?_);have R:=QG.quiet z.1 z.2 hX W I Y hD nd gs hl q hj' t (zAt hm) true;unfold wT;refine R.congr (λs=>?_) (λ_=>rfl);rw[xL,xL]
 .refine hK _ _ (h2 _ _ ?_);have R:=QG.quiet z.1 z.2 hX W I Y hD nd gs hl q hj' t (zAt hm) false;unfold wT;refine R.congr (λs=>?_) (λ_=>rfl);rw[xL,xL]
def MP {xs:List (List AV)} {ys:List AV} {l y t ty:Nat} {z:Array Nat} {pos:String} {u:Array Edge} {fs:List FP} {Q:List FP->St->Prop} (A:F.it=true/\∀b,F.X b->F.V b) (G:E7 P F l xs) (M:zM tm y= .s (.func (.yield l) #[] #[])) (I:zM tm GS= .gh i) (E:xs[i]? =some ys)
 (C:asq.toList.map (yY (zM tm))=ys) (B:wU ys=true) (L:Nat.blt t m=true)
 (h1:yQ P F m ops false rest ⟨(GS,.gh (i+1))::(t,.s (.bool true))::tm,h⟩ fs Q) (h2:yQ P F m ops false rest ⟨(GS,.gh (ln xs+1+i))::(t,.s (.bool false))::tm,h⟩ fs Q):
 yQ P F m ops false (⟨some t,.call ⟨.value (.tmp y),asq,z⟩,ty,pos,u,none⟩::rest) ⟨tm,h⟩ fs Q:=⟨ii A G M I E C B L h1.run h2.run⟩
end
structure VT (P:Program) (f:Nat) (caps:List AV) (h0:List (Nat×wB)) (xs:List (List AV)):Prop where
 able:ZF P f
 sim:∀(l:Nat) (cv:Array Value) (F:Fr (xD h0)),(F.it=true/\∀b,F.X b->F.V b)->F.ro=none->F.h0=zE h0->cv.size=caps.length->gW F.X (zE h0) F.β0 F.w0->(∀(i:Nat) v,caps[i]? =some v->yK F.w0 (xX F.X F.β0) (zE h0) F.β0 v (cv.getD i undef))->
  F.J 0 (Rj F.β0) F.X F.w0->E7 P F l xs->Calls P f (#[.func (.yield l) #[] #[]]++cv) F.w0 λe w'=>(∃v,e= .returned v)/\∃i O X,F.J i O X w'/\(i=xs.length\/xs.length<i)
def O1 (n:Nat) (e:Exit) (st:St):Prop:=(e= .normal\/e= .ret)/\∃i,zM st.tm GS= .gh i/\(i=n\/n<i)
def ZD (h:zM st.tm GS= .gh i) (hi:i=n\/n<i):O1 n .ret st:=⟨.inr Z,i,h,hi⟩
def XZ (h:zM st.tm GS= .gh i) (hi:i=n\/n<i):O1 n .normal st:=⟨.inl Z,i,h,hi⟩
theorem YC {f:Nat} {fn:Func} {u:List AV} {xs:List (List AV)} (hf:P.funcs[f]? =some fn) (hb:fn.body=some body) (C:ZF P f) (z:Nat.ble (ln u+1) fn.ntmps=true) (M:fn.results= #[])
 (L:uN h0=true) (h:∀(F:Fr (xD h0)) (l:Nat),F.ro=none->(F.it=true/\∀b,F.X b->F.V b)->E7 P F l xs->uR P F fn.ntmps body ⟨(GS,.gh 0)::QH 0 (.s (.func (.yield l) #[] #[])::u),h0⟩ (O1 (ln xs))) (ac:Nat.ble fn.ntmps GS=true:=by rfl):VT P f u h0 xs:=by
 refine⟨C,λl E F I R ag ap H A hj hY=>(callsIn_wide (n:=0)).1 ?_⟩;have z:=zAt z;have hw:∀(c:Code) Q a w,c.wpIn (Cd F.ro) 0 P Q a w->c.wpIn Fence.wide 0 P Q a w:=λc Q a w h=>by rw[R]at h;exact h
 refine callsIn_of_wp_marks (F:=Fence.wide) (n:=0) hf hb trivial (hw _ _ _ _ (Code.wpIn_mono (λe a' w1 q=>?_) ((h F l R I hY).run _ F.w0 ⟨⟨F.X,F.β0,⟨λ_ h=>h,λ_ h=> .inl h⟩,H,λt=>?_,⟨λk e B=>?_,zAg _,λ_ _ _ _=>rfl,λk b n hm=> .inl ⟨k,n,hm⟩,λk b n hm=>⟨n,zAg _,hm⟩,λ_ _ _ _=>rfl,rfl,rfl,rfl⟩,λi hi=>?_,[],rfl,λ_=>rfl,zE8,λb hb=>by simp at hb⟩,λk=>qW L,zAt ac,?_⟩))) Z
 .obtain⟨st,⟨B,i,hi,hn⟩,⟨⟨X2,β2,_,_,_,_,S,bs,Y,W,_⟩,_,_,_⟩⟩:=q;have U:=W I.1;subst U
  have G:LeavesInM Fence.wide 0 P fn a'.tmps (λe w'=>(∃v,e= .returned v)/\∃i O X,F.J i O X w'/\(i=ln xs\/xs.length<i)) a'.defers .returning w1:=by
   rw[Y];refine⟨.tuple #[],by simp[results,M],⟨_,rfl⟩,i,_,_,S i hi,hn⟩
  rcases B with rfl|rfl
  all_goals exact G
 .dsimp only;rw[xL];split
  .exact .fz _ _ (.gh _ _)
  .rw [TY,Os (zAr _),zE4]
   cases t with
   | zero=>
    have e:Act.eval {tmps:= #[Value.func (.yield l) #[] #[]]++E++Array.replicate (fn.ntmps-(#[Value.func (.yield l) #[] #[]]++E).size) undef,defers:=[]} (.tmp 0)= .func (.yield l) #[] #[]:=by
     simp[Act.eval,zBe,Array.getElem?_append]
    rw[e];exact .fz _ _ (.s _)
   | succ t=>
    rw[List.getD_cons_succ];by_cases ht:t<ln u
    .have h2:u[t]? =some (u.getD t .bot):=by simp[ny,ht]
     have e:Act.eval {tmps:= #[Value.func (.yield l) #[] #[]]++E++Array.replicate (fn.ntmps-(#[Value.func (.yield l) #[] #[]]++E).size) undef,defers:=[]} (.tmp (t+1))=E.getD t undef:=by
      simp only[Act.eval,zBe];rw[zCg uH,zEj zW];simp
     rw[e];exact A t _ h2
    .have:u.getD t .bot= .bot:=by simp[ny,zB2 (by omega:ln u<=t)]
     rw[this];exact .fz _ _ (.bot _)
 .rw[ag]at B
  cases e with
  |dead=>exact absurd B (qW L)
  |box cs=>exact⟨cs,B⟩
  |obj cs=>exact⟨cs,B⟩
  |arr sz xs sl=>exact⟨xs,sl,B,zAg _⟩
 .dsimp only at hi;rw[xL,Os Z]at hi;cases hi;exact hj
 .simp;omega
def βr (K:List Nat) (β:qG):qG:=λk=>if k∈K then β k else []
def US {K:List Nat} (h:k∈K):βr K β k=β k:=by simp[βr,h]
def jB {K:List Nat} {b:Nat} (h:(b,n)∈βr K β k):k∈K/\(b,n)∈β k:=by
 unfold βr at h
 grind
theorem G8 {Xc:Nat->Prop} (I:gW X h β w) (G:∀k,k∈xD h0->h k=zE h0 k) (z:∀k e,zE h0 k=some e->Ix (xD h0) e=true)
 (M:∀b,Xc b->X b\/∃k n,¬k∈xD h0/\(b,n)∈β k):
  gW Xc (zE h0) (βr (xD h0) β) w/\∀v c,yK w (xX X β) h β v c->(∀k,k∈v.refs->k∈xD h0)->yK w (xX Xc (βr (xD h0) β)) (zE h0) (βr (xD h0) β) v c:=by
 have B:∀k,k∈xD h0->βr (xD h0) β k=β k:=λk hk=>US hk
 have E:∀b,xX Xc (βr (xD h0) β) b->xX X β b:=λb hd=>by
  rcases hd with hx|⟨k,n,C⟩
  .exact(M b hx).imp id λ⟨k,n,_,C⟩=>⟨k,n,C⟩
  .exact .inr ⟨k,n,(jB C).2⟩
 have A:∀v c,yK w (xX X β) h β v c->(∀k,k∈v.refs->k∈xD h0)->yK w (xX Xc (βr (xD h0) β)) (zE h0) (βr (xD h0) β) v c:=by
  intro v c hv;have ef:∀{v c},xS w (xX X β) v c->xS w (xX Xc (βr (xD h0) β)) v c:=λR=>R.evo (zAg _) λb _ hd=>⟨rfl,λh'=>hd (E b h')⟩
  induction hv with
  |fz v c R=>exact λ_=> .fz _ _ (ef R)
  |agg cs c hl h1 _ U=>exact λu=> .agg cs c hl h1 λi v hv=>U i v hv λk hk=>u k (by simpa [AV.refs]using vB hv hk)
  |fn f L c hl _ U=>exact λu=> .fn f L c hl λi v hv=>U i v hv λk hk=>u k (by simpa [AV.refs]using vB hv hk)
  |tup vs c hl _ U=>exact λu=> .tup vs c hl λi v hv=>U i v hv λk hk=>u k (by simpa [AV.refs]using vB hv hk)
  |dref k off len c hk h1=>exact λu=> .dref _ _ _ _ ((G k (u k (by simp[AV.refs])))▸hk) h1
  |dptr k i off c hk h1=>exact λu=> .dptr _ _ _ _ ((G k (u k (by simp[AV.refs])))▸hk) h1
  |ref k off len sz xs st b n cap hk hb S hc hs=>exact λu=> .ref k off len sz xs st b n cap ((G k (u k (by simp[AV.refs])))▸hk) (by rw[B k (u k (by simp[AV.refs]))];exact hb) S hc hs
  |ref0 k off sz xs st a hk S=>exact λu=> .ref0 k off sz xs st a ((G k (u k (by simp[AV.refs])))▸hk) S
  |pbox k off cs b n hk hb=>exact λu=> .pbox k off cs b n ((G k (u k (by simp[AV.refs])))▸hk) (by rw[B k (u k (by simp[AV.refs]))];exact hb)
  |parr k i off sz xs st b n hk hb hi ho=>exact λu=> .parr k i off sz xs st b n ((G k (u k (by simp[AV.refs])))▸hk) (by rw[B k (u k (by simp[AV.refs]))];exact hb) hi ho
 refine⟨⟨λk e O=>?_,λk O=>?_,λk k' b n Y q1 q2=>I.disj _ _ _ _ _ (jB q1).2 (jB q2).2,λk b n C hx=>?_,λb hd=>I.lt b (E b hd)⟩,A⟩
 .have hk:=uS O
  refine(I.ent k e ((G k hk).trans O)).lift (B k hk) (λcs V i v c hi hv=>A v c hv λj hj=>by
   have:=z k e O;rw[V]at this
   simpa using zAq.1 this j (vB hi hj)) λsz xs fl W i x j v c hi hj=>⟨λR=>R.evo (zAg _) λb _ hd=>⟨rfl,λh'=>hd (E b h')⟩,λS hv=>A v c hv λq hq=>by
   have:=z k e O;rw[W]at this;simp only[Ix,S,zBr]at this
   simpa using zAq.1 this q (vB hi (TX hj hq))⟩
 .unfold βr;rw[Of];intro hk;obtain⟨e,hk⟩:=ZG hk
  grind
 .obtain⟨hk,C⟩:=jB C
  rcases M b hx with hx|⟨k',Y,hk',hm'⟩
  .exact I.free k b n C hx
  .exact hk' (I.disj k k' b n Y C hm'▸hk)
def PY (h:yS):Prop:=∀k sz xs fl,h k=some (.arr sz xs fl)->fl.nest=false
def o5:List (Nat×wB)->Bool
 | []=>true
 |(_,e)::r=>match e with
  | .arr _ _ fl=>!fl.nest&&o5 r
  |_=>o5 r
theorem wo:∀{h:List (Nat×wB)},o5 h=true->PY (zE h)
 | [],_,k,sz,xs,fl,u=>by simp[zE]at u
 | (j,e)::r,hn,k,sz,xs,fl,u=>by
  rw[xN]at u;split at u
  .cases u;simp[o5]at hn;exact hn.1
  .refine wo (h:=r) ?_ k sz xs fl u
   cases e with
   |arr _ _ _=>simp[o5]at hn;exact hn.2
   |_=>exact hn
def Tu (nn:PY h) (K:List Nat):∀v:AV,kI K h v=wQ K h v:=by
 intro v;refine AV.rec (motive_1:=λv=>kI K h v=wQ K h v) (motive_2:=λcs=>vA K h cs=kJ K h cs) ?_ ?_ ?_ ?_ ?_ ?_ ?_ ?_ ?_ ?_ ?_ ?_ ?_ ?_ v
 .rfl
 .exact λ_=>rfl
 .exact λ_=>rfl
 .simp_all [yS,PY,kI,wQ]
 .exact λ_ _ _=>rfl
 .exact λ_ _ _=>rfl
 .intro k off len;simp only[kI,wQ]
  cases K.contains k with
  |true=>rfl
  |false=>
   simp only[zCc];split
   .rename_i xs fl u;rw[nn _ _ _ _ u];rfl
   .rfl
 .intro k i off;rfl
 .exact λ_ _ _ _=>rfl
 .simp_all [yS,PY,kI,wQ]
 .simp_all [yS,PY,kI,wQ]
 .exact λ_ _=>rfl
 .rfl
 .exact λv r h1 h2=>by simp only[vA,kJ];rw[h1,h2]
theorem gW.restrX {X':Nat->Prop} (H:gW X h β w) (K I:List Nat) (hx:∀b,X' b->X b\/∃k n,k∈I/\(b,n)∈β k) (L:∀k,k∈I->¬k∈K) (nn:PY h)
 (M:∀k cs,k∈K->h k=some (.box cs)->∀j,j∈gQ cs->¬j∈I):
  gW X' (zE (vH K h)) (βr K β) w/\∀v c,(∀j,j∈v.refs->¬j∈I)->yK w (xX X β) h β v c->yK w (xX X' (βr K β)) (zE (vH K h)) (βr K β) (wQ K h v) c:=by
 have C:∀b,xX X' (βr K β) b->xX X β b:=λb hd=>by
  rcases hd with hb|⟨k,n,A⟩
  .exact(hx b hb).imp id λ⟨k,n,_,A⟩=>⟨k,n,A⟩
  .exact .inr ⟨k,n,(jB A).2⟩
 have hv:∀v c,(∀j,j∈v.refs->¬j∈I)->yK w (xX X β) h β v c->yK w (xX X' (βr K β)) (zE (vH K h)) (βr K β) (wQ K h v) c:=λv c hr hv=>by
  rw[<-Tu nn];refine yK.fz0 H (K:=K) (λk hk e B=>?_) (λk hk=>US hk) (λb _ hd h'=>hd (C b h')) hv λk O=>?_
  .rw[wY,Os hk,B]
   cases e with
   |box cs=>exact⟨_,rfl⟩
   |obj cs=>exact⟨_,rfl⟩
   |arr sz xs fl=>exact⟨xs,fl,by simp only[zB8,qE,nn _ _ _ _ B,zCc],rfl⟩
   |dead=>rfl
  .by_cases hk:k∈K
   .exact .inl hk
   .refine .inr λb n A=>?_
    rintro(hb|⟨k',G,z⟩)
    .rcases hx b hb with hb|⟨k',G,hk',z⟩
     .exact H.free k b n A hb
     .exact hr k O (H.disj k k' b n G A z▸hk')
    .obtain⟨hk',z⟩:=jB z;exact hk (H.disj k k' b n G A z▸hk')
 have V:∀{v c},xS w (xX X β) v c->xS w (xX X' (βr K β)) v c:=λhf=>hf.evo (zAg _) λb _ hd=>⟨rfl,λh'=>hd (C b h')⟩
 refine⟨⟨λk e B=>?_,λk B=>?_,λk k' b n G h1 h2=>H.disj _ _ _ _ _ (jB h1).2 (jB h2).2,λk b n A hb=>?_,λb hd=>H.lt b (C b hd)⟩,hv⟩
 .rw[wY]at B;split at B
  .rename_i hk;rw[zAs]at B;obtain⟨R,E,rfl⟩:=B;have:=H.ent k R E
   cases R with
   |dead=>show βr K β k=[];rw[US hk];exact this
   |box cs=>
    obtain⟨b,c,W,h1,h2,h3,h4,h5⟩:=this;refine⟨b,c,W,by rw[US hk];exact h1,h2,by rw[uO];exact h3,h4,λi v hi=>?_⟩;rw[YE,zAs]at hi;obtain⟨u,U,rfl⟩:=hi;exact hv u _ (λj hj=>M k cs hk E j (vB U hj)) (h5 i u U)
   |obj cs=>
    exact⟨by rw[US hk];exact this.1,this.2⟩
   |arr sz xs st=>
    obtain⟨Y,g2,g3,g4,g5,f,g6,g7,g8⟩:=this;have S:=nn _ _ _ _ E;rw[show qE K h (.arr sz xs st)= .arr sz xs st by simp only[qE,S,zCc]];exact⟨Y,g2,by rw[US hk];exact g3,g4,by rw[US hk];exact g5,f,.ofF λi x j v hx hy=>V (g6.toF S i x j v hx hy),g7,by rw[US hk];exact g8⟩
  .cases B
 .unfold βr;split
  .rename_i hk;rw[wY,Os hk]at B
   cases hk':h k with
   |none=>exact H.off k hk'
   |some e=>simp[hk']at B
  .rfl
 .obtain⟨hk,A⟩:=jB A
  rcases hx b hb with hb|⟨k',G,hk',z⟩
  .exact H.free k b n A hb
  .exact L k' hk' (H.disj k k' b n G A z▸hk)
def vo (K:List Nat) (h h':yS):∀v:AV,wQ K h' (wQ K h v)=wQ K h v:=by
 intro v;refine AV.rec (motive_1:=λv=>wQ K h' (wQ K h v)=wQ K h v) (motive_2:=λcs=>kJ K h' (kJ K h cs)=kJ K h cs) ?_ ?_ ?_ ?_ ?_ ?_ ?_ ?_ ?_ ?_ ?_ ?_ ?_ ?_ v
 .rfl
 .exact λ_=>rfl
 .exact λ_=>rfl
 .simp_all [yS,wQ]
 .exact λ_ _ _=>rfl
 .exact λ_ _ _=>rfl
 .intro k off len;simp only[wQ]
  cases hc:K.contains k with
  |true=>simp only[zBr,wQ,hc]
  | false=>
   simp only[zCc]
   rcases h k with _|(_|⟨_,xs,fl⟩|_|_)
   .rfl
   .rfl
   .dsimp only
    cases fl.nest with
    |false=>rfl
    |true=>
     simp only[zBr]
     cases wU (vA K h xs)<;>rfl
   .rfl
   .rfl
 .intro k i off;simp only[wQ]
  cases hc:K.contains k with
  |true=>simp only[zBr,wQ,hc]
  |false=>rfl
 .exact λ_ _ _ _=>rfl
 .simp_all [yS,wQ]
 .simp_all [yS,wQ]
 .exact λ_ _=>rfl
 .rfl
 .exact λv r h1 h2=>by simp only[kJ];rw[h1,h2]
section
variable {K0:List Nat} {F:Fr K0} {h:yS} {β:qG} {w w':World} {X:Nat->Prop}
theorem dG.toGoes (O:∀b,¬F.V b) (I:gW F.X F.h0 F.β0 F.w0) (H:gW X h β w) (K:dG F h β w) (S:∀k,F.h0 k≠some .dead):wG X F.w0 F.h0 F.β0 w h β where
 size:=K.size
 keep b hb hn:=K.keep b hb (O b) hn
 own:=K.own
 bs:=K.bs
 key k e he:=by
  refine .inr ?_;have h1:=K.knd k e he
  cases e with
  |dead=>exact absurd he (S k)
  |box L=>
   obtain⟨A,h2⟩:=h1;refine⟨⟨_,h2⟩,λb n z=>?_⟩;obtain⟨R,C,u⟩:=K.pas k b n z;obtain⟨W,_,_,B,_⟩:=H.ent k _ h2;obtain⟨U,_,_,e1,_⟩:=I.ent k _ he;rw[e1]at z;rw[B]at u⊢;simp at z u⊢;exact⟨u.1,z.2⟩
  |obj cs=>
   obtain⟨A,h2⟩:=h1;refine⟨⟨_,h2⟩,λb n z=>?_⟩;obtain⟨R,C,u⟩:=K.pas k b n z;have B:=(H.ent k _ h2).1;have e1:=(I.ent k _ he).1;rw[e1]at z;rw[B]at u⊢;simp at z u⊢;exact⟨u.1,z.2⟩
  |arr sz xs sl=>
   obtain⟨G,E,h2,M⟩:=h1;exact⟨⟨G,E,h2,M⟩,λb n z=>K.pas k b n z⟩
 hok:=H
 os:=K.os
 tape:=K.tape
 output:=K.output
theorem dG.turn (K:dG F h β w) (H:gW X h β w) (hs:w'.heap.size=w.heap.size) (hk:∀b,b<w.heap.size->¬X b->w'.heap[b]? =w.heap[b]?) (hl:∀b,b<F.w0.heap.size->w'.heap[b]? =w.heap[b]?) (C:w'.os=w.os) (E:w'.tape=w.tape) (G:w'.output=w.output):dG F h β w':=
 ⟨K.knd,by rw[hs];exact K.size,λb hb hi B=>by rw[hl b hb];exact K.keep b hb hi B,K.own,K.pas,λk b n z=>by
  rw[<-K.bs k b n z];obtain⟨A,_,u⟩:=K.pas k b n z;unfold wW World.shape?
  rw[hk b (H.lt b (.inr ⟨k,A,u⟩)) (H.free k b A u)],C.trans K.os,E.trans K.tape,G.trans K.output⟩
theorem dG.restr (K:dG F h β w) (Ks:List Nat) (L:∀k,k∈K0->k∈Ks):dG F (zE (vH Ks h)) (βr Ks β) w:=by
 refine⟨λk e M=>?_,K.size,K.keep,λk b n u=>K.own k b n (jB u).2,λk b n u=>?_,K.bs,K.os,K.tape,K.output⟩
 .have hk:=L k (F.hh k e M);have h1:=K.knd k e M;have C:∀A,h k=some A->zE (vH Ks h) k=some (qE Ks h A):=λA h2=>by rw[wY,Os hk,h2];rfl
  cases e with
  |dead=>exact h1
  |box cs=>obtain⟨z,h2⟩:=h1;exact⟨_,C _ h2⟩
  |obj cs=>obtain⟨z,h2⟩:=h1;exact⟨_,C _ h2⟩
  |arr sz xs sl=>obtain⟨G,E,h2,O⟩:=h1;obtain⟨I,B,R,S⟩:=bQ Ks h sz G E;exact⟨I,B,(C _ h2).trans (by rw[R]),by rw[S];exact O⟩
 .rw[US (L k (F.hK k b n u))];exact K.pas k b n u
end
def mg (u:List Nat) (ys:List AV) (T:List (Nat×AV)):List (Nat×AV):=(u.zip ys).foldl (λz p=>p::z) T
theorem GH {D:Nat->Prop} :∀(u:List Nat) (ys:List AV) (cs:List Value) (T:List (Nat×AV)) (tmps:Array Value),ln ys=ln cs->(∀(j:Nat) v c,ys[j]? =some v->cs[j]? =some c->yK w D h β v c)->(∀p,p∈u->p<tmps.size)->
  (∀t,yK w D h β (zM T t) (tmps.getD t undef))->∀t,yK w D h β (zM (mg u ys T) t) (((u.zip cs).foldl (λtmps (p:Nat×Value)=>tmps.setIfInBounds p.1 p.2) tmps).getD t undef)
 | [],ys,cs,T,tmps,_,_,_,h,t=>h t
 |p::u,[],cs,T,tmps,hl,_,_,h,t=>by
  obtain rfl:cs=[]:=zBa hl.symm;exact h t
 |p::u,y::ys,[],T,tmps,hl,_,_,h,t=>by simp at hl
 | p::u,y::ys,c::cs,T,tmps,hl,B,A,h,t=>by
  have z:=A p zW;refine GH u ys cs ((p,y)::T) (tmps.setIfInBounds p c) Na (λj v C h1 h2=>B (j+1) v C Ma Oa) (λq E=>by simpa using A q (by simp[E])) (λs=>?_) t;rw[xL];by_cases hs:s=p
  .subst hs;rw[Os Z];have e:(tmps.setIfInBounds s c).getD s undef=c:=by simp[zBe,z]
   rw[e];exact B 0 y c Z Z
  .rw[Of hs];have e:(tmps.setIfInBounds p c).getD s undef=tmps.getD s undef:=by simp[zBe,Array.getElem?_setIfInBounds_ne (Ne.symm hs)]
   rw[e];exact h s
theorem dG.evo {F:Fr K0} (z:L6 F X) (G:wG X F.w0 F.h0 F.β0 w h β):CR F.w0 (xX F.X F.β0) F.h0 F.β0 w (xX X β) h β:=
 ⟨G.size,λb hb hd=>⟨G.keep b hb λk n u=>hd (.inr ⟨k,n,u⟩),λh'=>by
  rcases h' with hx|⟨k,n,u⟩
  .rcases z.2 b hx with hx|hx
   .exact hd (.inl hx)
   .omega
  .rcases G.own k b n u with⟨k',A,h2⟩|h2
   .exact hd (.inr ⟨k',A,h2⟩)
   .omega⟩,G.bs,G.key⟩
structure PZ {K0:List Nat} (F:Fr K0) (T:List (Nat×AV)) (a:Act) (l:Nat) (hc:List (Nat×wB)) (rec:Loop) (O X:Nat->Prop) (W:World):Prop where
 ex:∃Xc βc,L6 F Xc/\gW Xc (zE hc) βc W/\(∀t,yK W (xX Xc βc) (zE hc) βc (zM T t) (a.eval (.tmp t)))/\dG F (zE hc) βc W/\
  (∃bs:List Nat,a.defers=bs.map (λb=>{target:= .collected b,args:= #[]})/\bs.Nodup/\∀b,b∈bs->Xc b/\F.w0.heap.size<=b/\W.heap[b]? =some (.deferred (some []))/\¬O b)/\
  (∀b,O b->Xc b/\F.w0.heap.size<=b/\¬F.X b)/\(∀b,Rj βc b->X b)/\(∀b,Xc b->X b\/O b)/\Xc l
 lx:X l
 lo:¬O l
 lh:W.heap[l]? =some (.loop rec)
 ll:F.w0.heap.size<=l
 xl:∀b,X b->b<W.heap.size
 nd:∀k,zE hc k≠some .dead
section
variable {K0:List Nat} {F:Fr K0} {T:List (Nat×AV)} {a:Act} {l:Nat} {hc:List (Nat×wB)} {rec:Loop} {O O' X:Nat->Prop} {W W':World}
theorem PZ.stab (C:PZ F T a l hc rec O X W) (hs:W.heap.size<=W'.heap.size) (hk:∀b,b<W.heap.size->¬O b->W'.heap[b]? =W.heap[b]?) (L:∀b,O' b->O b\/W.heap.size<=b) (hl:∀b,O' b->b<W'.heap.size) (o1:W'.os=W.os) (o2:W'.tape=W.tape) (o3:W'.output=W.output):PZ F T a l hc rec O' X W':=by
 obtain⟨⟨Xc,I,R,A,c3,B,⟨bs,d1,d2,d3⟩,G,c8,S,U⟩,lx,lo,lh,ll,xl,nd⟩:=C;have V:l<W.heap.size:=xl l lx;have M:∀k b n,(b,n)∈I k->¬O b:=λk b n z u=>A.free k b n z (G b u).1
 have E:CR W (xX Xc I) (zE hc) I W' (xX (λb=>(Xc b/\¬O b)\/O' b) I) (zE hc) I:=by
  refine⟨hs,λb hb hd=>⟨hk b hb λu=>hd (.inl (G b u).1),λh'=>?_⟩,λk b n z=>?_,jS _ _⟩
  .rcases h' with(hx|hx)|hx
   .exact hd (.inl hx.1)
   .rcases L b hx with u|u
    .exact hd (.inl (G b u).1)
    .omega
   .exact hd (.inr hx)
  .unfold wW World.shape?;rw[hk b (A.lt b (.inr ⟨k,n,z⟩)) (M k b n z)]
 refine⟨⟨λb=>(Xc b/\¬O b)\/O' b,I,⟨λb hb=> .inl ⟨R.1 b hb,λu=>(G b u).2.2 hb⟩,λb hb=>?_⟩,⟨λk e he=>(A.ent k e he).evo E Z λb n z=>hk b (A.lt b (.inr ⟨k,n,z⟩)) (M k b n z),A.off,A.disj,λk b n z hx=>?_,λb hd=>?_⟩,λt=>(c3 t).evo E,⟨B.knd,zBi B.size hs,λb hb hi hn=>?_,B.own,B.pas,λk b n z=>?_,o1.trans B.os,o2.trans B.tape,o3.trans B.output⟩,⟨bs,d1,d2,λb hb=>?_⟩,λb hb=>?_,c8,λb hb=>?_,.inl ⟨U,lo⟩⟩,lx,λh=>?_,by rw[hk l V lo];exact lh,ll,λb hb=>zBn (xl b hb) hs,nd⟩
 .rcases hb with hb|hb
  .exact R.2 b hb.1
  all_goals grind
 .rcases hx with hx|hx
  .exact A.free k b n z hx.1
  .rcases L b hx with u|u
   .grind
   .have:=A.lt b (.inr ⟨k,n,z⟩);omega
 .rcases hd with(hx|hx)|hx
  .grind
  .exact hl b hx
  .exact zBn (A.lt b (.inr hx)) hs
 .rw[hk b (zBn hb B.size) λu=>by have:=(G b u).2.1;omega];exact B.keep b hb hi hn
 .obtain⟨n',_,Y⟩:=B.pas k b n z;rw[E.bs k b n' Y,B.bs k b n z]
 .obtain⟨q1,q2,q3,q4⟩:=d3 b hb;refine⟨.inl ⟨q1,q4⟩,q2,by rw[hk b (A.lt b (.inl q1)) q4];exact q3,λh=>?_⟩
  rcases L b h with u|u
  .exact q4 u
  .have:=A.lt b (.inl q1);omega
 .refine⟨.inr hb,?_⟩
  rcases L b hb with u|u
  .exact(G b u).2
  .exact⟨zBi B.size u,λhx=>by have:=A.lt b (.inl (R.1 b hx));omega⟩
 .rcases hb with hb|hb
  .exact(S b hb.1).imp id λu=>absurd u hb.2
  .exact .inr hb
 .rcases L l h with u|u
  .exact lo u
  .omega
def uo (e:Exit) (c:Code):Prop:=(e= .ret/\c= .ret)\/∃id,e= .exit id/\c= .exit id
theorem PZ.round {m:Nat} {U:Array Tmp} {assign:Code} {fn:FuncId} {bd:Nat} {Ks:List Nat} {ys:List AV} {cs:Array Value} {Rq:Exit->List (Nat×wB)->Prop} (ca:∀p,p∈U.toList->p<m) (u:a.tmps.size=m) (gs:m<=GS)
 (bl:rec= {state:= .ready,pending:=none,fn:=fn,tmps:=a.tmps,params:=U,assign:=assign,body:=body,defers:=bd}) (C:PZ F T a l hc rec O X W) (hT:∀t h',wQ Ks h' (zM T t)=zM T t) (b2:∀k,k∈K0->k∈Ks)
 (bu:cs.size=ln ys) (b9:U.size=ln ys) (br:∀(j:Nat) v,ys[j]? =some v->xS W (λb=>X b\/O b) v (cs.getD j undef)) (b3:∀e h,Rq e h->e= .normal\/e= .ret\/∃id,e= .exit id)
 (ce:∀(F1:Fr (xD hc)),F1.it=true->F1.ro=some l->uR P F1 m assign ⟨mg U.toList ys T,hc⟩ (λe s=>e= .normal/\∀(F2:Fr (xD s.h)),F2.it=true->F2.ro=some l->uR P F2 m body s (λe s'=>Rq e (vH Ks (zE s'.h))))):
  YieldAt Fence.wide 0 P l cs W λe W'=>(e= .returned (.bool true)/\∃X',YX X X' W W'/\∃h',Rq .normal h'/\PZ F T a l h' rec O X' W')\/
   (e= .returned (.bool false)/\∃X',YX X X' W W'/\∃h' x c,uo x c/\Rq x h'/\PZ F T a l h' {rec with state:= .done,pending:=some c} O X' W'):=by
 obtain⟨⟨Xc,βc,c1,c2,c3,c4,⟨bs,d1,d2,d3⟩,c6,c8,a9,ba⟩,lx,lo,lh,ll,xl,nd⟩:=C;have au:l<W.heap.size:=xl l lx;subst bl;refine⟨_,_,_,_,run_yield lh (by simpa using bu.trans b9.symm),?_⟩;dsimp only;refine roundIn_of_wpIn (F:=Fence.wide) (n:=0) trivial ?_
 let F1:Fr (xD hc):=⟨Xc,W,βc,zE hc,λk b n u=>by
  cases hk:zE hc k with
  |none=>rw[c2.off k hk]at u;simp at u
  |some e=>exact uS hk,λk e he=>uS he,some l,true,λ_=>False,λ_ _ _ _=>True,λ_ _ _ _ _ _ _ _ _ _ _ _ _ _=>trivial⟩
 have ar:∀{G:List Nat} (F:Fr G),F.it=true->gW F.X F.h0 F.β0 F.w0->(∀k,F.h0 k≠some .dead)->dG F F.h0 F.β0 F.w0:=λF _ H nd=>
  ⟨λk e he=>by
   cases e with
   |dead=>exact absurd he (nd k)
   |box cs=>exact⟨cs,he⟩
   |obj cs=>exact⟨cs,he⟩
   |arr sz xs sl=>exact⟨xs,sl,he,zAg _⟩,zAg _,λ_ _ _ _=>rfl,λk b n u=> .inl ⟨k,n,u⟩,λk b n u=>⟨n,zAg _,u⟩,λ_ _ _ _=>rfl,rfl,rfl,rfl⟩
 have L:∀(z:List (Nat×Value)) (tm:Array Value),(z.foldl (λtmps (p:Nat×Value)=>tmps.setIfInBounds p.1 p.2) tm).size=tm.size:=by
  intro z
  induction z with
  |nil=>exact λ_=>rfl
  |cons p z ih=>intro tm;rw[List.foldl_cons,ih];simp
 have ac:(U.zip cs).foldl (λtmps (p:Nat×Value)=>tmps.setIfInBounds p.1 p.2) a.tmps=(U.toList.zip cs.toList).foldl (λtmps (p:Nat×Value)=>tmps.setIfInBounds p.1 p.2) a.tmps:=by
  rw[<-Array.foldl_toList,Array.toList_zip]
 have R1:wT F1 m ⟨mg U.toList ys T,hc⟩ {tmps:=(U.zip cs).foldl (λtmps (p:Nat×Value)=>tmps.setIfInBounds p.1 p.2) a.tmps,defers:=[]} W:=by
  refine⟨⟨Xc,βc,⟨λ_ h=>h,λ_ h=> .inl h⟩,c2,λt=>?_,ar F1 Z c2 nd,λ_ _=>trivial,[],rfl,λ_=>rfl,zE8,λb hb=>by simp at hb⟩,nd,gs,by rw[ac,L];exact u⟩;rw[ac];refine GH U.toList ys cs.toList T a.tmps (by simpa using bu.symm) (λj v c h1 h2=>?_) (λp hp=>by rw[u];exact ca p hp) c3 t;have h3:=br j v h1;have e:cs.getD j undef=c:=dU Oa;rw[e]at h3;exact .fz _ _ (h3.less λb hd=>hd.elim (a9 b) λho=> .inl (c8 b ho))
 refine Code.wpIn_mono (λe a1 w1 q=>?_) ((ce F1 Z Z).run _ _ R1);obtain⟨s,⟨rfl,hs⟩,⟨⟨X1,β1,R,H1,b0,G,_,cf,b5,b4,_⟩,az,b1,b6⟩⟩:=q;have:=b4 Z;subst this;have G1:=G.toGoes (λ_ h=>h) c2 H1 nd;have E1:=dG.evo R G1;have bb:w1.heap[l]? =W.heap[l]? :=G.keep l au (λh=>h) λk n u=>c2.free k l n u ba
 have Y:X1 l:=R.1 l ba;refine⟨_,run_beginRound (bb.trans lh) Z,?_⟩;generalize av:w1.putObj l _=w2;have I:w2.heap.size=w1.heap.size:=by rw[<-av];simp
 have a6:∀b,b≠l->w2.heap[b]? =w1.heap[b]? :=λb hb=>by rw[<-av];exact World.putObj_heap_other hb
 have cc:w2.heap[l]? =some (.loop {state:= .busy,pending:=none,fn:=fn,tmps:=a.tmps,params:=U,assign:=assign,body:=body,defers:=bd}):=by
  rw[<-av];exact World.putObj_heap_same (zBn au G.size)
 have A:w2.os=w1.os/\w2.tape=w1.tape/\w2.output=w1.output:=by rw[<-av];exact⟨rfl,rfl,rfl⟩
 have ag:∀b,b<w1.heap.size->¬X1 b->w2.heap[b]? =w1.heap[b]? :=λb _ hx=>a6 b λe=>hx (e▸Y)
 have a4:=H1.turn (zCb I.symm) ag;have E2:=QI H1 (zCb I.symm) ag
 let F2:Fr (xD s.h):=⟨X1,w2,β1,zE s.h,λk b n u=>by
  cases hk:zE s.h k with
  |none=>rw[H1.off k hk]at u;simp at u
  |some e=>exact uS hk,λk e he=>uS he,some l,true,λ_=>False,λ_ _ _ _=>True,λ_ _ _ _ _ _ _ _ _ _ _ _ _ _=>trivial⟩
 have R2:wT F2 m s a1 w2:=⟨⟨X1,β1,⟨λ_ h=>h,λ_ h=> .inl h⟩,a4,λt=>(b0 t).evo E2,ar F2 Z a4 az,λ_ _=>trivial,[],b5,λ_=>rfl,zE8,λb hb=>by simp at hb⟩,az,b1,b6⟩;refine Code.wpIn_mono (λe a2 V q=>?_) ((hs F2 Z Z).run _ _ R2);obtain⟨s3,hq,⟨⟨X3,β3,S,H3,_,K3,_⟩,bx,_,_⟩⟩:=q;have G3:=K3.toGoes (λ_ h=>h) a4 H3 az;have E3:=dG.evo S G3;have a8:=(K3.keep l (by show l<w2.heap.size;rw[I];exact zBn au G.size) (λh=>h) λk n u=>H1.free k l n u Y).trans cc;have b7:l<V.heap.size:=zBn (by rw[I];exact zBn au G.size) K3.size;have a3:X3 l:=S.1 l Y;have ch:W.heap.size<=V.heap.size:=zBi G.size (by rw[<-I];exact K3.size)
 have a5:∀E:Loop,∃X',YX X X' W (V.putObj l (.loop E))/\PZ F T a l (vH Ks (zE s3.h)) E O X' (V.putObj l (.loop E)):=by
  intro E;generalize ax:V.putObj l (.loop E)=w4;have M:w4.heap.size=V.heap.size:=by rw[<-ax];simp
  have a7:∀b,b≠l->w4.heap[b]? =V.heap[b]? :=λb hb=>by rw[<-ax];exact World.putObj_heap_other hb
  have cd:w4.heap[l]? =some (.loop E):=by rw[<-ax];exact World.putObj_heap_same b7
  have B:w4.os=V.os/\w4.tape=V.tape/\w4.output=V.output:=by rw[<-ax];exact⟨rfl,rfl,rfl⟩
  have ap:∀b,b<V.heap.size->¬X3 b->w4.heap[b]? =V.heap[b]? :=λb _ hx=>a7 b λe=>hx (e▸a3)
  obtain⟨H4,cb⟩:=H3.restr Ks;have H5:=H4.turn (zCb M.symm) ap;have E5:=QI H4 (zCb M.symm) ap
  have oc:∀b,X3 b->Xc b\/W.heap.size<=b:=λb hb=>by
   rcases S.2 b hb with h|h
   .exact R.2 b h
   .have h2:w2.heap.size<=b:=h;rw[I]at h2;exact .inr (zBi G.size h2)
  have old:∀b,b<W.heap.size->b≠l->¬Rj βc b->w4.heap[b]? =W.heap[b]? :=λb hb bf bk=>by
   rw[a7 b bf]
   have h1:∀k n,(b,n)∉β1 k:=λk n u=>by
    rcases G.own k b n u with⟨k',n',h⟩|h
    .exact bk ⟨k',n',h⟩
    .have:W.heap.size<=b:=h;omega
   have q1:=K3.keep b (by show b<w2.heap.size;rw[I];exact zBn hb G.size) (λh=>h) h1;have q2:=G.keep b hb (λh=>h) λk n u=>bk ⟨k,n,u⟩
   exact q1.trans ((a6 b bf).trans q2)
  have KF:dG F (zE (vH Ks (zE s3.h))) (βr Ks β3) w4:=by
   have k1:dG F (zE s.h) β1 w1:=c4.goes G1 az λk b n u=>G.pas k b n u
   have k2:dG F (zE s.h) β1 w2:=k1.turn H1 I ag (λb hb=>a6 b λe=>by omega) A.1 A.2.1 A.2.2;have k3:dG F (zE s3.h) β3 V:=k2.goes G3 bx λk b n u=>K3.pas k b n u
   have k4:=k3.restr Ks b2;exact k4.turn H4 M ap (λb hb=>a7 b λe=>by omega) B.1 B.2.1 B.2.2
  refine⟨λb=>X b\/Rj (βr Ks β3) b\/(X3 b/\¬O b),⟨by omega,λb hb hx=>⟨old b hb (λe=>hx (e▸lx)) λho=>hx (c8 b ho),λh'=>?_⟩,λb hb=> .inl hb,λb hb=>?_,?_,?_,?_⟩,⟨X3,βr Ks β3,⟨λb hb=>S.1 b (R.1 b (c1.1 b hb)),λb hb=>?_⟩,H5,λt=>?_,KF,⟨bs,d1,d2,λb hb=>?_⟩,λb hb=>?_,λb hb=> .inr (.inl hb),λb hb=>?_,a3⟩,.inl lx,lo,cd,ll,λb hb=>?_,λk=>?_⟩
  .rcases h' with h|⟨k,n,u⟩|⟨h,hO⟩
   .exact hx h
   .have u:=(jB u).2
    rcases K3.own k b n u with⟨k',n',h⟩|h
    .rcases G.own k' b n' h with⟨k2,n2,h⟩|h
     .exact hx (c8 b ⟨k2,n2,h⟩)
     .have:W.heap.size<=b:=h;omega
    .have h2:w2.heap.size<=b:=h;have:=G.size;have:W.heap.size<=w1.heap.size:=this;omega
   .rcases oc b h with h|h
    .exact(a9 b h).elim hx hO
    .omega
  .rcases hb with h|⟨k,n,u⟩|⟨h,hO⟩
   .have:=xl b h;omega
   .rw[M];exact H3.lt b (.inr ⟨k,n,(jB u).2⟩)
   .rw[M];exact H3.lt b (.inl h)
  .exact B.1.trans (K3.os.trans (A.1.trans G.os))
  .exact B.2.1.trans (K3.tape.trans (A.2.1.trans G.tape))
  .exact B.2.2.trans (K3.output.trans (A.2.2.trans G.output))
  .rcases oc b hb with h|h
   .exact c1.2 b h
   .exact .inr (zBi c4.size h)
  .have:=cb _ _ ((((c3 t).evo E1).evo E2).evo E3);rw[hT]at this;exact this.evo E5
  .obtain⟨q1,q2,q3,q4⟩:=d3 b hb;refine⟨S.1 b (R.1 b q1),q2,?_,q4⟩;rw[old b (c2.lt b (.inl q1)) (λe=>by rw[e,lh]at q3;cases q3) λ⟨k,n,u⟩=>c2.free k b n u q1];exact q3
  .exact⟨S.1 b (R.1 b (c6 b hb).1),(c6 b hb).2⟩
  .by_cases hO:O b
   .exact .inr hO
   .exact .inl (.inr (.inr ⟨hb,hO⟩))
  .rcases hb with h|⟨k,n,u⟩|⟨h,hO⟩
   .have:=xl b h;omega
   .rw[M];exact H3.lt b (.inr ⟨k,n,(jB u).2⟩)
   .rw[M];exact H3.lt b (.inl h)
  .rw[wY];split
   .intro h;rw[zAs]at h;obtain⟨e,he,h2⟩:=h
    cases e with
    |dead=>exact bx k he
    |box cs=>cases h2
    |obj cs=>cases h2
    |arr sz xs st=>obtain⟨ci,cg,h4,_⟩:=bQ Ks (zE s3.h) sz xs st;rw[h4]at h2;cases h2
   .intro h;cases h
 rcases b3 e _ hq with rfl|rfl|⟨id,rfl⟩
 .obtain⟨X',q1,q2⟩:=a5 {state:= .ready,pending:=none,fn:=fn,tmps:=a.tmps,params:=U,assign:=assign,body:=body,defers:=bd};exact⟨_,_,run_endRound none a8,.inl ⟨rfl,X',q1,_,hq,q2⟩⟩
 .obtain⟨X',q1,q2⟩:=a5 {state:= .done,pending:=some .ret,fn:=fn,tmps:=a.tmps,params:=U,assign:=assign,body:=body,defers:=bd};exact⟨_,_,run_endRound (some .ret) a8,.inr ⟨rfl,X',q1,_,.ret,.ret,.inl ⟨rfl,rfl⟩,hq,q2⟩⟩
 .obtain⟨X',q1,q2⟩:=a5 {state:= .done,pending:=some (.exit id),fn:=fn,tmps:=a.tmps,params:=U,assign:=assign,body:=body,defers:=bd};exact⟨_,_,run_endRound (some (.exit id)) a8,.inr ⟨rfl,X',q1,_,.exit id,.exit id,.inr ⟨id,rfl,rfl⟩,hq,q2⟩⟩
end
def OA (w:World) (o:Obj) (b:Nat) (h:b<w.heap.size):(w.alloc o).heap[b]? =w.heap[b]? :=by
 show(w.heap.push o)[b]? =_
 grind
theorem dG.grow {F:Fr K0} {w':World} (K:dG F h β w) (H:gW X h β w) (hs:w.heap.size<=w'.heap.size) (hk:∀b,b<w.heap.size->w'.heap[b]? =w.heap[b]?) (C:w'.os=w.os) (E:w'.tape=w.tape) (G:w'.output=w.output):dG F h β w':=
 ⟨K.knd,zBi K.size hs,λb hb hi A=>by rw[hk b (zBn hb K.size)];exact K.keep b hb hi A,K.own,K.pas,λk b n z=>by
  rw[<-K.bs k b n z];obtain⟨B,_,u⟩:=K.pas k b n z;unfold wW World.shape?
  rw[hk b (H.lt b (.inr ⟨k,B,u⟩))],C.trans K.os,E.trans K.tape,G.trans K.output⟩
section
variable {P:Program} {K0:List Nat} {F:Fr K0} {m:Nat} {st:St} {T:List (Nat×AV)} {a:Act} {l:Nat} {hc:List (Nat×wB)} {rec:Loop} {O X:Nat->Prop} {W:World}
theorem PZ.rel (C:PZ F T a l hc rec O X W) (B:F.it=false) (hT:∀i,zM T GS≠ .gh i) (gs:m<=GS) (hl:a.tmps.size=m) (o:Obj):wT F m ⟨T,hc⟩ a (W.putObj l o):=by
 obtain⟨⟨Xc,Y,I,A,M,R,⟨G,S,U,d3⟩,c6,c8,L,z⟩,lx,lo,lh,ll,xl,V⟩:=C;have sz:(W.putObj l o).heap.size=W.heap.size:=by simp
 have E:∀b,b≠l->(W.putObj l o).heap[b]? =W.heap[b]? :=λb hb=>World.putObj_heap_other hb
 have u:∀b,b<W.heap.size->¬Xc b->(W.putObj l o).heap[b]? =W.heap[b]? :=λb _ hx=>E b λe=>hx (e▸z)
 refine⟨⟨Xc,Y,I,A.turn (zCb sz.symm) u,λt=>(M t).evo (QI A (zCb sz.symm) u),R.turn A sz u (λb hb=>E b λe=>by omega) Z Z Z,λi hi=>absurd hi (hT i),G,S,(λh=>by rw[B]at h;cases h),U,λb hb=>?_⟩,V,gs,hl⟩
 grind
def rfQ (Ks:List Nat) (h':List (Nat×wB)) (p:Prop) (Q:Exit->St->Prop) (T:List (Nat×AV)):Exit->St->Prop
 | .normal,s=>vH Ks (zE s.h)=h'/\p
 | .ret,s=>Q .ret ⟨T,vH Ks (zE s.h)⟩
 | .exit id,s=>Q (.exit id) ⟨T,vH Ks (zE s.h)⟩
 |_,_=>False
theorem qH {g:Operand} {ps:Array Tmp} {assign:Code} {f:Nat} {B:List AV} {xs:List (List AV)} (hF:F.ro=none/\F.it=false) (bd:VT P f B h0 xs) (hg:yY (zM st.tm) g= .fn f B)
 (Ks ts:List Nat) (b2:K0.all (Ks.contains ·)=true) (ba:Ks.all (λk=>!(xD h0).contains k)=true) (ce:(xD h0).map (zE st.h)=(xD h0).map (zE h0)) (b7:h0.all (λp=>Ix (xD h0) p.2)=true)
 (a8:(gQ B).all ((xD h0).contains ·)=true) (cj:ts.all (λt=>(zM st.tm t).refs.all (λk=>!(xD h0).contains k))=true)
 (cf:Ks.all (λk=>match zE st.h k with|some (.box cs)=>(gQ cs).all (λj=>!(xD h0).contains j)|_=>true)=true) (cd:ts.all (λt=>!(Nat.beq t GS))=true) (ci:ps.toList.all (Nat.blt · m)=true) (ch:∀(i:Nat) ys,xs[i]? =some ys->ps.size=ln ys)
 (H:Nat->List (Nat×wB)) (I:Nat->Prop) {T:List (Nat×AV)} (e0:restr Ks ts st=⟨T,H 0⟩) (i0:I 0)
 (a4:∀(i:Nat) ys l,xs[i]? =some ys->I i->∀(F1:Fr (xD (H i))),F1.it=true->F1.ro=some l->uR P F1 m assign ⟨mg ps.toList ys T,H i⟩ (λe s=>e= .normal/\∀(F2:Fr (xD s.h)),F2.it=true->F2.ro=some l->uR P F2 m body s (rfQ Ks (H (i+1)) (I (i+1)) Q T)))
 (done:I (ln xs)->Q .normal ⟨T,H (ln xs)⟩) (cg:o5 st.h=true:=by rfl):uR P F m (.rangeFunc g ps assign body) st Q:=⟨λa w R=>by
 rw[hF.1]
 change Code.wpIn Fence.wide 0 P _ _ a w
 obtain⟨⟨X0,β,hX,S,Ht,KK,_,bs,cb,_,b6,a7⟩,nd,gs,hl⟩:=R
 have hK:∀k,k∈xD h0->zE st.h k=zE h0 k:=λk hk=>by
  obtain⟨i,hi⟩:=zDz hk;have:=zAv (·[i]?) ce;simpa [hi]using this
 have Y:∀k e,zE h0 k=some e->Ix (xD h0) e=true:=λk e hk=>by
  obtain⟨p,hp,U⟩:=bS hk;have:=zAq.1 b7 p hp;rw[U]at this;exact this
 have A:∀k,k∈xD h0->¬k∈Ks:=λk h1 h2=>by
  have:=zAq.1 ba k h2;simp at this;exact this h1
 have bb:∀k cs,k∈Ks->zE st.h k=some (.box cs)->∀j,j∈gQ cs->¬j∈xD h0:=λk cs hk U j hj h1=>by
  have:=zAq.1 cf k hk;rw[U]at this;have:=zAq.1 this j hj;simp at this;exact this h1
 have ag:∀k,k∈K0->k∈Ks:=λk hk=>by simpa using zAq.1 b2 k hk
 have cp:T=ts.map λt=>(t,wQ Ks (zE st.h) (zM st.tm t)):=by have:=zAv St.tm e0;exact this.symm
 have b0:vH Ks (zE st.h)=H 0:=zAv St.h e0
 have G:∀t,zM T t=if t∈ts then wQ Ks (zE st.h) (zM st.tm t)else .bot:=λt=>by
  rw[<-bR Ks ts st t,e0]
 have b4:∀t h',wQ Ks h' (zM T t)=zM T t:=λt h'=>by
  rw[G];split
  .exact vo _ _ _ _
  .rfl
 have a6:∀i,zM T GS≠ .gh i:=λi=>by
  rw[G];split
  .rename_i h;have:=zAq.1 cd GS h;simp at this
  .intro h;cases h
 have az:=MQ Ht g;rw[hg]at az
 obtain⟨cv,cc,a9,ca⟩:∃cv:Array Value,a.eval g= .func (.func f) #[] cv/\cv.size=ln B/\∀(i:Nat) v,B[i]? =some v->yK w (xX X0 β) (zE st.h) β v (cv.getD i undef):=by
  generalize a.eval g=cx at az
  cases az with
  |fz _ _ hf=>cases hf
  |fn _ _ c hl hh=>exact⟨c,rfl,hl,hh⟩
 refine wpIn_rangeFunc (F:=Fence.wide) (n:=0) λfn _=>?_
 generalize M:({state:= .ready,pending:=none,fn:=fn,tmps:=a.tmps,params:=ps,assign:=assign,body:=body,defers:=w.heap.size}:Loop)=rec;obtain⟨E,V⟩:∃E,E=(w.alloc (.deferred (some []))).alloc (.loop rec):=⟨_,rfl⟩;have cr:E.heap.size=w.heap.size+2:=by rw[V];simp
 have ap:∀b,b<w.heap.size->E.heap[b]? =w.heap[b]? :=λb hb=>by rw[V,OA _ _ b uH,OA _ _ b hb]
 have b5:E.heap[w.heap.size]? =some (.deferred (some [])):=by rw[V,OA _ _ _ zW];exact World.alloc_heap_new _ _
 have bf:E.heap[w.heap.size+1]? =some (.loop rec):=by
  rw[V];have:=World.alloc_heap_new (w.alloc (.deferred (some []))) (.loop rec);simpa using this
 have u:E.os=w.os/\E.tape=w.tape/\E.output=w.output:=by rw[V];exact⟨rfl,rfl,rfl⟩
 have ac:(Instr.enterLoop fn a.tmps ps assign body none).run P w= .ok (w.heap.size+1,[{target:= .collected w.heap.size,args:= #[]}]) E:=by
  rw[V,<-M];exact run_enterLoop_outer fn a.tmps ps assign body
 generalize cq:w.heap.size+1=l at bf ac
 let a':Act:={a with defers:=[{target:= .collected w.heap.size,args:= #[]}]++a.defers}
 let J:Nat->(Nat->Prop)->(Nat->Prop)->World->Prop:=λi O X W=>(i<=ln xs/\I i/\PZ F T a' l (H i) rec O X W)\/
  (ln xs<i/\∃h' x c,uo x c/\Q x ⟨T,h'⟩/\PZ F T a' l h' {rec with state:= .done,pending:=some c} O X W)
 have bl:∀i O X w w' O',J i O X w->w.heap.size<=w'.heap.size->(∀b,b<w.heap.size->¬O b->w'.heap[b]? =w.heap[b]?)->(∀b,O' b->O b\/w.heap.size<=b)->(∀b,O' b->b<w'.heap.size)->w'.os=w.os->w'.tape=w.tape->w'.output=w.output->J i O' X w':=by
  rintro i O X v v' O' (⟨h1,hI,h2⟩|⟨h1,h',x,c,h2,h3,h4⟩) q1 q2 q3 q4 q5 q6 q7
  .exact .inl ⟨h1,hI,h2.stab q1 q2 q3 q4 q5 q6 q7⟩
  .exact .inr ⟨h1,h',x,c,h2,h3,h4.stab q1 q2 q3 q4 q5 q6 q7⟩
 let O0:Nat->Prop:=Rj (βr (xD h0) β)
 let Xa:Nat->Prop:=λb=>X0 b\/∃k n,k∈xD h0/\(b,n)∈β k
 let Xc:Nat->Prop:=λb=>Xa b\/b=w.heap.size\/b=l
 let Xi:Nat->Prop:=λb=>X0 b\/Rj (βr Ks β) b
 let X1:Nat->Prop:=λb=>Xi b\/b=w.heap.size\/b=l
 have ar:∀b,O0 b->b<w.heap.size:=λb ⟨k,n,z⟩=>S.lt b (.inr ⟨k,n,(jB z).2⟩)
 have av:∀b,Xa b->b<w.heap.size:=λb hb=>hb.elim (λh=>S.lt b (.inl h)) λ⟨k,n,_,z⟩=>S.lt b (.inr ⟨k,n,z⟩)
 have ax:∀b,Xi b->b<w.heap.size:=λb hb=>hb.elim (λh=>S.lt b (.inl h)) λ⟨k,n,z⟩=>S.lt b (.inr ⟨k,n,(jB z).2⟩)
 have b3:∀b,O0 b->¬X0 b:=λb ⟨k,n,z⟩ hx=>S.free k b n (jB z).2 hx
 obtain⟨H1,ck⟩:=S.restrX (X':=Xa) Ks (xD h0) (λb hb=>hb) A (wo cg) bb
 have Q1:YX Xa Xc w E:=⟨by omega,λb hb hx=>⟨ap b hb,λh=>by
  rcases h with h|h|h
  .exact hx h
  .omega
  .omega⟩,λb hb=> .inl hb,λb hb=>by
  rcases hb with h|h|h
  .have:=av b h;omega
  .omega
  .omega,u.1,u.2.1,u.2.2⟩
 obtain⟨H2,cl⟩:=G8 (Xc:=Xi) S hK Y (λb hb=>by
  rcases hb with h|⟨k,n,z⟩
  .exact .inl h
  .obtain⟨hk,z⟩:=jB z
   exact .inr ⟨k,n,λh=>A k h hk,z⟩)
 have Q2:YX Xi X1 w E:=⟨by omega,λb hb hx=>⟨ap b hb,λh=>by
  rcases h with h|h|h
  .exact hx h
  .omega
  .omega⟩,λb hb=> .inl hb,λb hb=>by
  rcases hb with h|h|h
  .have:=ax b h;omega
  .omega
  .omega,u.1,u.2.1,u.2.2⟩
 have C0:PZ F T a' l (H 0) rec O0 X1 E:=by
  rw[<-b0];refine⟨⟨Xc,βr Ks β,⟨λb hb=> .inl (.inl (hX.1 b hb)),λb hb=>?_⟩,Q1.hok H1,λt=>?_,(KK.restr Ks ag).grow H1 (by omega) ap u.1 u.2.1 u.2.2,⟨w.heap.size::bs,?_,?_,λb hb=>?_⟩,λb hb=>?_,λb hb=> .inl (.inr hb),λb hb=>?_,.inr (.inr Z)⟩,.inr (.inr Z),λh=>?_,bf,?_,Q2.lt,λk=>?_⟩
  .rcases hb with(h|⟨k,n,hk,z⟩)|h|h
   .exact hX.2 b h
   .rcases KK.own k b n z with⟨k',n',h⟩|h
    .exfalso;obtain⟨a3,_,a1⟩:=KK.pas k' b n' h;have:=S.disj k k' b n a3 z a1;subst this;exact A k hk (ag k (F.hK k b n' h))
    .exact .inr h
   all_goals(exact .inr (by have:=KK.size;omega))
  .rw[G];split
   .rename_i ht
    exact(ck _ _ (λj hj h1=>by
     have:=zAq.1 cj t ht;have:=zAq.1 this j hj;simp at this
     exact this h1) (Ht t)).evo (Q1.evo H1)
   .exact .fz _ _ (.bot _)
  .show [_]++a.defers=_
   rw[cb];rfl
  .refine List.nodup_cons.2 ⟨λh=>?_,b6⟩;have:=S.lt _ (.inl (a7 _ h).1);omega
  .rcases zBv.1 hb with rfl|hb
   .exact⟨.inr (.inl Z),KK.size,b5,λh=>by have:=ar _ h;omega⟩
   .obtain⟨q1,q2,q3⟩:=a7 b hb;exact⟨.inl (.inl q1),q2,by rw[ap b (S.lt b (.inl q1))];exact q3,λh=>b3 b h q1⟩
  .obtain⟨k,n,z⟩:=hb;obtain⟨hk,z⟩:=jB z;refine⟨.inl (.inr ⟨k,n,hk,z⟩),?_,λh=>S.free k b n z (hX.1 b h)⟩
   rcases KK.own k b n z with⟨k',n',h⟩|h
   .exfalso;obtain⟨a3,_,a1⟩:=KK.pas k' b n' h;have:=S.disj k k' b n a3 z a1;subst this;exact A k hk (ag k (F.hK k b n' h))
   .exact h
  .rcases hb with(h|⟨k,n,hk,z⟩)|h|h
   .exact .inl (.inl (.inl h))
   .exact .inr ⟨k,n,by rw[US hk];exact z⟩
   .exact .inl (.inr (.inl h))
   .exact .inl (.inr (.inr h))
  .have:=ar _ h;omega
  .have:=KK.size;omega
  .rw[wY];split
   .intro h;rw[zAs]at h;obtain⟨e,U,h2⟩:=h
    cases e with
    |dead=>exact nd k U
    |box cs=>cases h2
    |obj cs=>cases h2
    |arr sz xs fl=>obtain⟨cu,co,h4,_⟩:=bQ Ks (zE st.h) sz xs fl;rw[h4]at h2;cases h2
   .intro h;cases h
 let Fi:Fr (xD h0):=⟨X1,E,βr (xD h0) β,zE h0,λk b n z=>(jB z).1,λk e U=>uS U,none,true,X1,J,bl⟩
 have a5:=bd.sim l cv Fi ⟨rfl,λ_ h=>h⟩ rfl Z a9 (Q2.hok H2) (λi v hv=>(cl v _ (ca i v hv) (λk hk=>by
   have:=zAq.1 a8 k (vB hv hk)
   simpa using this)).evo (Q2.evo H2)) (.inl ⟨zAr _,i0,C0⟩) (by
  intro i ys X O W cs a2 hj b9 bk;have cn:i<ln xs:=(zAz.1 a2).1
  rcases hj with⟨_,hI,C⟩|⟨h,_⟩
  case inr=>omega
  have hd:=C.round (P:=P) (m:=m) (Ks:=Ks) (ys:=ys) (cs:=cs) (Rq:=λe h'=>(e= .normal/\h'=H (i+1)/\I (i+1))\/((e= .ret\/∃id,e= .exit id)/\Q e ⟨T,h'⟩)) (λp hp=>by simpa using zAq.1 ci p hp) (show a'.tmps.size=m from hl) gs M.symm b4 ag b9 (ch i ys a2) bk
   (λe h L=>by
    rcases L with⟨rfl,_⟩|⟨h|h,_⟩
    .exact .inl Z
    .exact .inr (.inl h)
    .exact .inr (.inr h)) (λF1 f1 f2=>(a4 i ys l a2 hI F1 f1 f2).mono λe s ⟨U,hb⟩=>⟨U,λF2 g1 g2=>(hb F2 g1 g2).mono λe' s' L=>by
     cases e' with
     |normal=>exact .inl ⟨rfl,L⟩
     |ret=>exact .inr ⟨.inl Z,L⟩
     |exit id=>exact .inr ⟨.inr ⟨id,rfl⟩,L⟩
     |goto t=>exact L.elim
     |panic c=>exact L.elim
     |outgrown=>exact L.elim⟩)
  obtain⟨bx,cm,br,bu,h1,h2⟩:=hd;refine⟨bx,cm,br,bu,h1,RoundIn.mono h2 ?_⟩;rintro e W' (⟨U,X',q,h',L,C'⟩|⟨U,X',q,h',x,c,hx,L,C'⟩)
  .refine .inl ⟨U,X',q,.inl ⟨by omega,?_⟩⟩
   rcases L with⟨_,rfl,b1⟩|⟨h|⟨id,h⟩,_⟩
   .exact⟨b1,C'⟩
   all_goals cases h
  .refine .inr ⟨U,X',q,.inr ⟨by omega,h',x,c,hx,?_,C'⟩⟩
   rcases L with⟨h,_⟩|⟨_,h⟩
   .rcases hx with⟨rfl,_⟩|⟨id,rfl,_⟩<;>cases h
   .exact h)
 refine⟨l,[{target:= .collected w.heap.size,args:= #[]}],E,{target:= .fn (.func f) cv,args:= #[.func (.yield l) #[] #[]]},E,f, #[.func (.yield l) #[] #[]]++cv,E,ac,?_,λ_ _=>trivial,(by simp only[invoke];exact bd.able _ _),λh=>by simp[Fence.wide]at h,?_⟩
 .unfold resolve rangeCall;dsimp only;rw[cc];simp[Deferred.ofValue,Act.eval]
 .refine callsIn_wide.2 (Calls.mono a5 ?_);rintro e w' ⟨⟨v,rfl⟩,i,O,X,hj,hi⟩;have au:a'.tmps.size=m:=hl
  rcases hj with⟨h1,hI,C⟩|⟨h1,h',x,c,hx,L,C⟩
  .obtain rfl:i=ln xs:=by omega
   refine⟨_,_,run_endLoop C.lh (by rw[<-M];intro h;cases h),?_⟩;rw[show rec.pending=none by rw[<-M]];exact⟨_,done hI,C.rel hF.2 a6 gs au _⟩
  .refine⟨_,_,run_endLoop C.lh (by intro h;cases h),?_⟩;have R:=C.rel hF.2 a6 gs au (.loop {({rec with state:= .done,pending:=some c}:Loop)with state:= .exhausted})
   rcases hx with⟨rfl,rfl⟩|⟨id,rfl,rfl⟩
   .exact wpIn_ret ⟨_,L,R⟩
   .exact wpIn_exit ⟨_,L,R⟩⟩
end
def Kx (n:Int):AV:= .s (.int .u8 n)
def Zi (a b:List Int):Bool:=(strOfNums a).toList==(strOfNums b).toList
def BY (l:List Int):Prop:=∀x∈l,0<=x/\x<256
def KT (a:List Int):(strOfNums a).toList=a.map λn=>UInt8.ofNat n.toNat:=by
 rw[ByteArray.toList_eq];rfl
def Dd (a b:List Int):Zi a b=decide ((a.map λn=>UInt8.ofNat n.toNat)=b.map λn=>UInt8.ofNat n.toNat):=by
 unfold Zi;rw[KT,KT]
 grind
def QE (a:List Int):Zi a a=true:=by rw[Dd];simp
def qo (a b:List Int):Zi a b=Zi b a:=by rw[Dd,Dd];simp[eq_comm]
def jZ (m n:Int):Int:=IntKind.i64.wrap (BitVec.ofInt IntKind.i64.bits m &&& BitVec.ofInt IntKind.i64.bits n).toNat
def Sj (m n:Int):Int:=IntKind.i64.wrap (BitVec.ofInt IntKind.i64.bits m ||| BitVec.ofInt IntKind.i64.bits n).toNat
def N1 (m n:Int):Int:=IntKind.i64.wrap (BitVec.ofInt IntKind.i64.bits m &&& ~~~BitVec.ofInt IntKind.i64.bits n).toNat
section
variable {P:Program} {TT:List TI} {tm:List (Nat×AV)} {h:List (Nat×wB)} {tx ty:Nat} {x y:Operand}
def bL {n:Int} (hx:yY (zM tm) x= .s (.int .i64 m)) (u:yY (zM tm) y= .s (.int .i64 n)):vC P ⟨tm,h⟩ (.binOp .and tx x y ty) (.s (.int .i64 (jZ m n))) [] [] []:=MR hx u
def gF {n:Int} (hx:yY (zM tm) x= .s (.int .i64 m)) (u:yY (zM tm) y= .s (.int .i64 n)):vC P ⟨tm,h⟩ (.binOp .or tx x y ty) (.s (.int .i64 (Sj m n))) [] [] []:=EV hx u
def bM {n:Int} (hx:yY (zM tm) x= .s (.int .i64 m)) (u:yY (zM tm) y= .s (.int .i64 n)):vC P ⟨tm,h⟩ (.binOp .andNot tx x y ty) (.s (.int .i64 (N1 m n))) [] [] []:=ue hx u
def fO {a:List Int} (hx:yY (zM tm) x= .s (.string (strOfNums a))) (u:yY (zM tm) y= .s (.string (strOfNums b))):vC P ⟨tm,h⟩ (.binOp .eql tx x y ty) (.s (.bool (Zi a b))) [] [] []:=OX hx u (.inl ⟨rfl,rfl⟩)
def fP {a:List Int} (hx:yY (zM tm) x= .s (.string (strOfNums a))) (u:yY (zM tm) y= .s (.string (strOfNums b))):vC P ⟨tm,h⟩ (.binOp .neq tx x y ty) (.s (.bool (!Zi a b))) [] [] []:=OX hx u (.inr ⟨rfl,rfl⟩)
def hG (O:qS P TT) {A u:Nat} {ts td:TI} {xs:List AV} {l:List Int} (hs:TT[A]? =some ts) (ac:ts.d= .slice e) (he:TT[e]? =some te) (Y:te.d= .int .u8) (hd:TT[u]? =some td) (W:td.d= .string)
 (hx:yY (zM tm) x= .sl nn xs) (hl:xs=l.map Kx):vC P ⟨tm,h⟩ (.convert A u x) (.s (.string (strOfNums l))) [] [] []:=
 xA λo X tm h w β a ho hg _ HH Ht=>by
  obtain⟨ar,ax,au,pos,I,L⟩:=o;dsimp only at ho;subst ho;have h1:=cC Ht hg (x:=x) qF hx;obtain⟨_,u1,_,_,B,_,S,_⟩:=uU (O _ _ hs);obtain⟨_,u2,_,_,C,_,U,_⟩:=uU (O _ _ he);obtain⟨_,u3,_,_,E,_,V,_⟩:=uU (O _ _ hd);obtain rfl:=uP (S.symm.trans ac);obtain rfl:=EU (U.symm.trans Y);obtain rfl:=Si (V.symm.trans W);subst hl;refine⟨.string (strOfNums l),?_,.fz _ _ (.s _)⟩
  have ap:(convert A u (a.eval x)).run P w= .ok (.string (strOfNums l)) w:=by
   generalize a.eval x=cx at h1
   cases h1 with
   | fz _ _ hf=>
    generalize G:l.map Kx=xs at hf
    cases hf with
    | nil b cap=>
     obtain rfl:l=[]:=by cases l with
      |nil=>rfl
      |cons z l=>simp at G
     cases b with
     |none=>exact run_convert_bytes_nil w A e B C 0 cap u E
     |some b=>
      rw[run_convert_bytes_string w A u e _ 0 cap B C E];simp[Conv.bytesToString,loadCells];rfl
    | nil1 b cap=>
     obtain rfl:l=[]:=by cases l with
      |nil=>rfl
      |cons z l=>simp at G
     rw[run_convert_bytes_string w A u e _ 0 cap B C E];simp[Conv.bytesToString,loadCells];rfl
    | sl _ _ b o sz cap f hx hL av hh=>
     subst G;have R:∀i,i<ln l->(l.map Kx)[i]? =some (Kx (l.getD i 0)):=λi hi=>by simp[ny,hi]
     have ag:sz=1:=by
      cases l with
      |nil=>exact absurd Z hx
      |cons z l=>exact(hL.wide 0 (Kx z) Z).symm
     subst ag
     have:=run_convert_bytes_arg (P:=P) w A e B C b o (l.map Kx).length cap l zW (λi hi=>by
      have hi':i<ln l:=by simpa using hi
      have h2:=hL.cell i 0 (by simpa using hi') (by omega);have M:=(hh i _ 0 (Kx (l.getD i 0)) (R i hi') Z);rw[show o+i=o+i*1+0 by omega,h2];unfold Kx at M;generalize f i 0=c at M;cases M
      rfl) u E
     exact this
  simp[execOp,ap]
end
section
variable {P:Program} {TT:List TI} {K0:List Nat} {F:Fr K0} {m:Nat} {ops:Array Oper} {rest:List Oper} {Q:List FP->St->Prop} {tm:List (Nat×AV)} {h:List (Nat×wB)} {dr:Bool} {fs:List FP}
variable {ty:Nat} {pos:String} {after:Array Edge} {t:Nat}
def jN {lo hi u:Option Operand} (hk:yQ P F m ops dr (⟨some t,.slice T x lo hi u,ty,pos,after,none⟩::rest) st fs Q):yQ P F m ops dr (⟨some t,.slice T x lo hi u,ty,pos,after,none⟩::rest) st fs Q:=hk
def aN (z:qS P TT) {xs ys:List AV} {k:IntKind} {i:Int} (hx:yY (zM tm) x= .sl nn xs) (hl:yY (zM tm) l= .s (.int k i)) (hT:TT[T]? =some ti) (hd:ti.d= .slice e) (A:TT[e]? =some te)
 (u:∀y,xs[0]? =some y->ln y.cells=te.size) (h0:0<=i) (h1:i<=ln xs) (C:xs.drop i.toNat=ys) (B:Nat.blt t m=true) (hk:yQ P F m ops dr rest ⟨(t,.sl nn ys)::tm,h⟩ (⟨true,[],[]⟩::fs) Q):
  yQ P F m ops dr (⟨some t,.slice T x (some l) none none,ty,pos,after,none⟩::rest) ⟨tm,h⟩ fs Q:=by
 have:=YO (P:=P) (st:=⟨tm,h⟩) (lo:=some l) (hi:=none) (l:=i.toNat) (r:=ln xs) z hx hT hd A ⟨k,i,hl,by omega⟩ rfl (by omega) (zAg _) u;rw[show(xs.drop i.toNat).take (ln xs-i.toNat)=ys by rw[<-C];exact zAj zW]at this;exact yE this B hk
def TW (z:qS P TT) {xs ys:List AV} {k:IntKind} {i:Int} (hx:yY (zM tm) x= .sl nn xs) (hl:yY (zM tm) l= .s (.int k i)) (hT:TT[T]? =some ti) (hd:ti.d= .slice e) (A:TT[e]? =some te)
 (u:∀y,xs[0]? =some y->ln y.cells=te.size) (h0:0<=i) (h1:i<=ln xs) (C:xs.take i.toNat=ys) (B:Nat.blt t m=true) (hk:yQ P F m ops dr rest ⟨(t,.sl nn ys)::tm,h⟩ (⟨true,[],[]⟩::fs) Q):
  yQ P F m ops dr (⟨some t,.slice T x none (some l) none,ty,pos,after,none⟩::rest) ⟨tm,h⟩ fs Q:=by
 have:=YO (P:=P) (st:=⟨tm,h⟩) (lo:=none) (hi:=some l) (l:=0) (r:=i.toNat) z hx hT hd A Z ⟨k,i,hl,by omega⟩ (by omega) (by omega) u;rw[show(xs.drop 0).take (i.toNat-0)=ys by rw[<-C];rfl]at this;exact yE this B hk
def YD (C:qS P TT) {A:Operand} {xs ys:List AV} {k B:IntKind} {i j:Int} (hx:yY (zM tm) x= .sl nn xs) (hl:yY (zM tm) l= .s (.int k i)) (u:yY (zM tm) A= .s (.int B j)) (hT:TT[T]? =some ti) (hd:ti.d= .slice e) (E:TT[e]? =some te)
 (z:∀y,xs[0]? =some y->ln y.cells=te.size) (h0:0<=i) (h1:i<=j) (h2:j<=ln xs) (I:(xs.drop i.toNat).take (j.toNat-i.toNat)=ys) (G:Nat.blt t m=true) (hk:yQ P F m ops dr rest ⟨(t,.sl nn ys)::tm,h⟩ (⟨true,[],[]⟩::fs) Q):
  yQ P F m ops dr (⟨some t,.slice T x (some l) (some A) none,ty,pos,after,none⟩::rest) ⟨tm,h⟩ fs Q:=by
 have:=YO (P:=P) (st:=⟨tm,h⟩) (lo:=some l) (hi:=some A) (l:=i.toNat) (r:=j.toNat) C hx hT hd E ⟨k,i,hl,by omega⟩ ⟨B,j,u,by omega⟩ (by omega) (by omega) z;rw[I]at this;exact yE this G hk
end
theorem yK.offK {D D':Nat->Prop} {h':yS} {β':qG} (k:Nat) (E:∀b,D' b->D b) (hh:∀j,j≠k->h' j=h j) (hβ:∀j,j≠k->β' j=β j) {v:AV} {c:Value} (hv:yK w D h β v c):k∉v.refs->yK w D' h' β' v c:=by
 induction hv with
 |fz v c G=>exact λ_=> .fz v c (G.less E)
 |agg cs c hl h1 C A=>exact λhk=> .agg cs c hl h1 λi v hv=>A i v hv λz=>hk (vB hv z)
 |fn f u c hl C A=>exact λhk=> .fn f u c hl λi v hv=>A i v hv λz=>hk (vB hv z)
 |tup vs c hl C A=>exact λhk=> .tup vs c hl λi v hv=>A i v hv λz=>hk (vB hv z)
 |dref j off len c hk' h1=>exact λhk=> .dref j off len c (by rw[hh j (λe=>hk (by simp[AV.refs,e]))];exact hk') h1
 |dptr j i off c hk' h1=>exact λhk=> .dptr j i off c (by rw[hh j (λe=>hk (by simp[AV.refs,e]))];exact hk') h1
 |ref j off len sz xs st b n cap hk' hb B hc hs=>
  intro hk;have hj:j≠k:=λe=>hk (by simp[AV.refs,e])
  exact .ref j off len sz xs st b n cap JH Vg B hc hs
 |ref0 j off sz xs st a hk' B=>
  intro hk;have hj:j≠k:=λe=>hk (by simp[AV.refs,e])
  exact .ref0 j off sz xs st a JH B
 |pbox j off cs b n hk' hb=>
  intro hk;have hj:j≠k:=λe=>hk (by simp[AV.refs,e])
  exact .pbox j off cs b n JH Vg
 |parr j i off sz xs st b n hk' hb hi I=>
  intro hk;have hj:j≠k:=λe=>hk (by simp[AV.refs,e])
  exact .parr j i off sz xs st b n JH Vg hi I
def AV.isGh:AV->Bool
 | .gh _=>true
 |_=>false
variable {v v':AV}{xs:List AV}
section
variable {P:Program} {K0:List Nat} {F:Fr K0} {m:Nat} {tm:List (Nat×AV)} {h:List (Nat×wB)}
def Su (k:Nat):wB->Bool
 | .box cs=>!(gQ cs).contains k
 | .obj cs=>true
 | .arr _ xs fl=>bif fl.nest then !(gQ xs).contains k else true
 | .dead=>true
theorem wT.compact (R:wT F m ⟨tm,h⟩ a w) (k:Nat) (ws:List Nat) (hk:zE h k=some (.arr sz xs ⟨sb,false⟩)) (I:K0.contains k=false) (a3:ws.map (zM tm)=ws.map λ_=> .ref k 0 (ln xs))
 (a2:tm.all (λp=>ws.contains p.1|| !p.2.refs.contains k)=true) (ap:h.all (λp=>Su k p.2)=true):wT F m ⟨tm,(k,.arr sz xs false)::h⟩ a w:=by
 obtain⟨⟨X,β,hX,H,Ht,G,hJ,hD⟩,nd,gs,hl⟩:=R;have hE:=H.ent k _ hk;obtain⟨e1,e2,e3,e4,e5,f,e6,e7,e8⟩:=hE
 let β':qG:=λj=>if j=k then(β k).take 1 else β j
 have z:∀j b n,(b,n)∈β' j->(b,n)∈β j:=λj b n u=>by
  grind
 have C:∀b,xX X β' b->xX X β b:=λb hd=>hd.imp id λ⟨j,n,u⟩=>⟨j,n,z j b n u⟩
 have B:∀j,j≠k->zE ((k,.arr sz xs false)::h) j=zE h j:=λj hj=>by rw[xN,Of hj]
 have L:zE ((k,.arr sz xs false)::h) k=some (.arr sz xs false):=by rw[xN,Os Z]
 have A:∀j,j≠k->β' j=β j:=λj hj=>by dsimp only[β'];rw[Of hj]
 have W:β' k=(β k).take 1:=by dsimp only[β'];rw[Os Z]
 have ac:∀c,yK w (xX X β) (zE h) β (.ref k 0 (ln xs)) c->yK w (xX X β') (zE ((k,.arr sz xs false)::h)) β' (.ref k 0 (ln xs)) c:=λc hc=>by
  generalize hn:ln xs=n at hc
  cases hc with
  |fz _ _ hf=>cases hf
  |dref _ _ _ _ hd _=>exact absurd hd (nd k)
  | ref _ _ _ Y ag st' b n' cap S hb ar av a1=>
   rw[hk]at S;cases S;refine .ref k 0 n sz xs false b n' cap L ?_ ar av a1;rw[W]
   cases hbk:β k with
   |nil=>rw[hbk]at hb;simp at hb
   |cons p r=>
    rw[hbk]at hb;obtain⟨b0,n0⟩:=p;obtain⟨_,_,g3⟩:=e5 b0 n0 r hbk
    rcases zBv.1 hb with h1|h1
    .rw[h1];simp
    .exfalso;have:=g3 b n' h1;omega
  |ref0 _ _ Y ag st' ad S ar=>exact .ref0 k 0 sz xs false ad L (zAr _)
 have au:∀t,yK w (xX X β') (zE ((k,.arr sz xs false)::h)) β' (zM tm t) (a.eval (.tmp t)):=λt=>by
  by_cases hw:t∈ws
  .obtain⟨i,hi⟩:=zDz hw;have e:=zAv (·[i]?) a3;simp only[zAi,hi,zB8,zBw]at e;have:=Ht t;dsimp only at this;rw[e]at this⊢;exact ac _ this
  .refine(Ht t).offK k C B A ?_;dsimp only;intro u
   have a4:∀(l:List (Nat×AV)),l.all (λp=>ws.contains p.1|| !p.2.refs.contains k)=true->k∈(zM l t).refs->False:=λl=>by
    induction l with
    |nil=>intro _ u;simp[zM,AV.refs]at u
    | cons p r ih=>
     obtain⟨j,v⟩:=p;intro hl u;rw[xL]at u;simp only[zFi,zAn]at hl;split at u
     .rename_i e;subst e;have h1:=hl.1;simp only[zCm,zC7,zCx,zEd]at h1
      rcases h1 with h1|h1
      .exact hw h1
      .exact h1 (by simpa using u)
     .exact ih hl.2 u
   exact a4 tm a2 u
 have H':gW X (zE ((k,.arr sz xs false)::h)) β' w:=by
  refine⟨λj e E=>?_,λj hj=>?_,λj j' b n n' h1 h2=>H.disj j j' b n n' (z _ _ _ h1) (z _ _ _ h2),λj b n u=>H.free j b n (z _ _ _ u),λb hd=>H.lt b (C b hd)⟩
  .by_cases hj:j=k
   .subst hj;rw[L]at E;cases E;refine⟨e1,e2,λhx=>?_,e4,λb n r M=>?_,f,.ofF λi x l v hx hv=>(e6.toF Z i x l v hx hv).less C,e7,λb n u=>e8 b n (z _ _ _ u)⟩
    .rw[W];have:=e3 hx
     cases hbk:β j with
     |nil=>exact absurd hbk this
     |cons p r=>simp
    .rw[W]at M
     cases hbk:β j with
     |nil=>rw[hbk]at M;simp at M
     |cons p r'=>
      rw[hbk]at M;simp only[zE7,zDi,List.cons.injEq]at M;obtain⟨hp,M⟩:=M;subst M;rw[hp]at hbk;obtain⟨g1,_,_⟩:=e5 b n r' hbk;exact⟨g1,λ_ b' n' u=>by simp at u,λb' n' u=>by simp at u⟩
   .rw[B j hj]at E;have hE:=H.ent j e E
    cases e with
    |dead=>exact absurd E (nd j)
    |box cs=>
     obtain⟨b,c,el,g1,g2,g3,g4,g5⟩:=hE;refine⟨b,c,el,by rw[A j hj];exact g1,g2,g3,g4,λi v hv=>(g5 i v hv).offK k C B A λu=>?_⟩;obtain⟨p,hp,V⟩:=bS E;have:=zAq.1 ap p hp;rw[V]at this;have U:=vB hv u;simp only[Su,zCx,zEd]at this;exact this (by simpa using U)
    |obj cs=>
     exact⟨by rw[A j hj];exact hE.1,hE.2⟩
    | arr Y ag st'=>
     obtain⟨g1,g2,g3,g4,g5,f',g6,g7,g8⟩:=hE;refine⟨g1,g2,by rw[A j hj];exact g3,g4,by rw[A j hj];exact g5,f',λi x l v hx hv=>?_,g7,by rw[A j hj];exact g8⟩
     cases hn:st'.nest with
     |false=>exact⟨.fz _ _ ((g6.toF hn i x l v hx hv).less C),λ_=>(g6.toF hn i x l v hx hv).less C⟩
     |true=>
      refine⟨(g6.toV i x l v hx hv).offK k C B A λu=>?_,λh0=>by cases h0⟩;obtain⟨p,hp,V⟩:=bS E;have:=zAq.1 ap p hp;rw[V]at this;simp only[Su,hn,zBr]at this;have U:=vB hx (TX hv u);simp only[zCx,zEd]at this;exact this (by simpa using U)
  .rw[xN]at hj;split at hj
   .cases hj
   .rename_i az;rw[A j az];exact H.off j hj
 have ax:∀b n,(b,n)∉F.β0 k:=λb n u=>by
  have:=F.hK k b n u;simp only[zEd]at I;exact I Ug
 refine⟨⟨X,β',hX,H',au,⟨λj e E=>?_,G.size,G.keep,λj b n u=>G.own j b n (z _ _ _ u),λj b n u=>?_,G.bs,G.os,G.tape,G.output⟩,λi hi=>?_,hD⟩,λj=>?_,gs,hl⟩
 .have hj:j≠k:=λe'=>by
   subst e';have:=F.hh j e E;simp only[zEd]at I;exact I Ug
  have:=G.knd j e E
  cases e with
  |dead=>exact this
  |box cs=>obtain⟨O,h2⟩:=this;exact⟨O,by dsimp only;rw[B j hj];exact h2⟩
  |obj cs=>obtain⟨O,h2⟩:=this;exact⟨O,by dsimp only;rw[B j hj];exact h2⟩
  |arr Y ag a7=>obtain⟨a6,a5,h2,h3⟩:=this;exact⟨a6,a5,by dsimp only;rw[B j hj];exact h2,h3⟩
 .have hj:j≠k:=λe'=>by subst e';exact ax b n u
  rw[A j hj];exact G.pas j b n u
 .exact F.Jst i _ X w w _ (hJ i hi) (zAg _) (λ_ _ _=>rfl) (λb ⟨j,n,u⟩=> .inl ⟨j,n,z _ _ _ u⟩) (λb ⟨j,n,u⟩=>H.lt b (.inr ⟨j,n,z _ _ _ u⟩)) Z Z Z
 .dsimp only;by_cases hj:j=k
  .subst hj;rw[L];intro hd;cases hd
  .rw[B j hj];exact nd j
theorem wT.flag (R:wT F m ⟨tm,h⟩ a w) (k:Nat) {st:Fl} (fl:Fl) (q1:fl.stale=false->st.stale=false) (q2:fl.nest=false->st.nest=false) (hk:zE h k=some (.arr sz xs st)):wT F m ⟨tm,(k,.arr sz xs fl)::h⟩ a w:=by
 obtain⟨⟨X,β,hX,H,Ht,B,hJ,hD⟩,nd,gs,hl⟩:=R;have z:∀j,j≠k->zE ((k,.arr sz xs fl)::h) j=zE h j:=λj hj=>by rw[xN,Of hj]
 have G:zE ((k,.arr sz xs fl)::h) k=some (.arr sz xs fl):=by rw[xN,Os Z]
 have E:CR w (xX X β) (zE h) β w (xX X β) (zE ((k,.arr sz xs fl)::h)) β:=⟨zAg _,λb _ hd=>⟨rfl,hd⟩,λ_ _ _ _=>rfl,λj e A=>by
  by_cases hj:j=k
  .subst hj;rw[hk]at A;cases A;exact .inr ⟨⟨xs,fl,G,zAg _⟩,λb n hm=>⟨n,zAg _,hm⟩⟩
  .have:=jS (zE h) β j e A
   rcases this with h1|h1
   .exact .inl (by rw[z j hj];exact h1)
   .refine .inr ?_
    cases e with
    |dead=>exact h1
    |box cs=>obtain⟨⟨u,h2⟩,C⟩:=h1;exact⟨⟨u,by rw[z j hj];exact h2⟩,C⟩
    |obj cs=>obtain⟨⟨u,h2⟩,C⟩:=h1;exact⟨⟨u,by rw[z j hj];exact h2⟩,C⟩
    |arr L M st'=>obtain⟨⟨x2,s2,h2,C⟩,h4⟩:=h1;exact⟨⟨x2,s2,by rw[z j hj];exact h2,C⟩,h4⟩⟩
 have Y:gW X (zE ((k,.arr sz xs fl)::h)) β w:=by
  refine⟨λj e A=>?_,λj hj=>?_,H.disj,H.free,H.lt⟩
  .by_cases hj:j=k
   .subst hj;rw[G]at A;cases A;obtain⟨e1,e2,e3,e4,S,f,W,e7⟩:=H.ent j _ hk;exact⟨e1,e2,e3,e4,λb n r U=>⟨(S b n r U).1,λh=>(S b n r U).2.1 (q1 h),(S b n r U).2.2⟩,f,λi x l v hx hv=>⟨(W.toV i x l v hx hv).evo E,λh=>(W.toF (q2 h) i x l v hx hv).evo E.size E.fz⟩,e7⟩
   .rw[z j hj]at A;exact(H.ent j e A).evo E Z λ_ _ _=>rfl
  .rw[xN]at hj;split at hj
   .cases hj
   .exact H.off j hj
 refine⟨⟨X,β,hX,Y,λt=>(Ht t).evo E,⟨λj e A=>?_,B.size,B.keep,B.own,B.pas,B.bs,B.os,B.tape,B.output⟩,hJ,hD⟩,λj=>?_,gs,hl⟩
 .have:=B.knd j e A;by_cases hj:j=k
  .subst hj
   cases e with
   |dead=>exact this
   |box cs=>obtain⟨u,h2⟩:=this;(try dsimp only at h2);rw[hk]at h2;cases h2
   |obj cs=>obtain⟨u,h2⟩:=this;(try dsimp only at h2);rw[hk]at h2;cases h2
   |arr L M V=>obtain⟨O,I,h2,C⟩:=this;(try dsimp only at h2);rw[hk]at h2;cases h2;exact⟨xs,fl,G,C⟩
  .cases e with
   |dead=>exact this
   |box cs=>obtain⟨u,h2⟩:=this;exact⟨u,by dsimp only;rw[z j hj];exact h2⟩
   |obj cs=>obtain⟨u,h2⟩:=this;exact⟨u,by dsimp only;rw[z j hj];exact h2⟩
   |arr L M V=>obtain⟨O,I,h2,C⟩:=this;exact⟨O,I,by dsimp only;rw[z j hj];exact h2,C⟩
 all_goals grind
def uG (k:Nat) (hk:zE h k=some (.arr sz xs ⟨sb,false⟩)) (hs:uR P F m c ⟨tm,(k,.arr sz xs true)::h⟩ Q):uR P F m c ⟨tm,h⟩ Q:=
 ⟨λa w R=>hs.run a w (R.flag k true (λh=>by cases h) (λ_=>rfl) hk)⟩
def KU (k:Nat) (hk:zE h k=some (.arr sz xs ⟨sb,false⟩)) (hs:uR P F m c ⟨tm,(k,.arr sz xs ⟨sb,true⟩)::h⟩ Q):uR P F m c ⟨tm,h⟩ Q:=
 ⟨λa w R=>hs.run a w (R.flag (st:=⟨sb,false⟩) k ⟨sb,true⟩ (λh=>h) (λh=>Bool.noConfusion h) hk)⟩
theorem wT.wkT (R:wT F m ⟨tm,h⟩ a w) (t:Nat) (hv:zM tm t=v) (G:YY v=v') (I:∀i,v'≠ .gh i):wT F m ⟨(t,v')::tm,h⟩ a w:=by
 obtain⟨⟨X,β,B,H,u,z,E,A⟩,C,gs,hl⟩:=R;refine⟨⟨X,β,B,H,λj=>?_,z,λi hi=>?_,A⟩,C,gs,hl⟩
 .rw[xL];split
  .rename_i hj;subst hj;have:=(u j).wk
   grind
  .exact u j
 all_goals grind [wT,zM,YY]
def QF {u:Array Oper} {l:List Oper} {fs:List FP} {Q:List FP->St->Prop} (t:Nat) (hv:zM tm t=v) (A:YY v=v') (z:v'.isGh=false) (hk:yQ P F m u false l ⟨(t,v')::tm,h⟩ fs Q):yQ P F m u false l ⟨tm,h⟩ fs Q:=
 ⟨λa w R=>hk.run a w (R.wkT t hv A λi hi=>by rw[hi]at z;cases z)⟩
def jo (t:Nat) (hv:zM tm t=v) (z:YY v=v') (u:v'.isGh=false) (hk:uR P F m c ⟨(t,v')::tm,h⟩ Q):uR P F m c ⟨tm,h⟩ Q:=
 ⟨λa w R=>hk.run a w (R.wkT t hv z λi hi=>by rw[hi]at u;cases u)⟩
def kV (k:Nat) (u:List Nat) (hk:zE h k=some (.arr sz xs ⟨sb,false⟩)) (z:K0.contains k=false) (C:u.map (zM tm)=u.map λ_=> .ref k 0 (ln xs))
 (B:tm.all (λp=>u.contains p.1|| !p.2.refs.contains k)=true) (A:h.all (λp=>Su k p.2)=true) (hs:uR P F m c ⟨tm,(k,.arr sz xs false)::h⟩ Q):uR P F m c ⟨tm,h⟩ Q:=
 ⟨λa w R=>hs.run a w (R.compact k u hk z C B A)⟩
end
def p2 (n:Int):Int:=2 ^ n.toNat
def vO (m n:Int):Int:=m.fdiv (2 ^ n.toNat)
def Za (n:Int) (h:n<=40):1<=p2 n/\p2 n<=1099511627776:=by
 unfold p2;have h1:(2:Int) ^ n.toNat=((2 ^ n.toNat:Nat):Int):=by simp
 have h2:2 ^ n.toNat<=2 ^ 40:=zD8 (by omega) (by omega)
 grind
section
variable {P:Program} {tm:List (Nat×AV)} {h:List (Nat×wB)} {tx ty:Nat} {x y:Operand}
def bN {n:Int} (hx:yY (zM tm) x= .s (.int .i64 1)) (u:yY (zM tm) y= .s (.int k' n)) (h0:0<=n/\n<=40):vC P ⟨tm,h⟩ (.binOp .shl tx x y ty) (.s (.int .i64 (p2 n))) [] [] []:=by
 have e:IntKind.i64.wrap (1*2 ^ (min n.toNat IntKind.i64.bits))=p2 n:=by
  have hb:IntKind.i64.bits=64:=rfl;have h1:=Za n h0.2;rw[hb,show min n.toNat 64=n.toNat by omega,zFa];exact jD (k:= .i64) ⟨by unfold p2 at h1;show -9223372036854775808<=_;omega,by unfold p2 at h1;show _<=9223372036854775807;omega⟩
 rw[<-e];exact vT (.inl ⟨rfl,rfl⟩) hx u h0.1
def bO {n:Int} (hx:yY (zM tm) x= .s (.int .i64 m)) (u:yY (zM tm) y= .s (.int k' n)) (h0:0<=n/\n<=40):vC P ⟨tm,h⟩ (.binOp .shr tx x y ty) (.s (.int .i64 (vO m n))) [] [] []:=by
 have hb:IntKind.i64.bits=64:=rfl;refine vT (.inr ⟨rfl,?_⟩) hx u h0.1
 grind [yY,zM,vO]
end
section
variable {P:Program} {K0:List Nat} {F:Fr K0} {m:Nat}
def WA {x y:Code} (K z:List Nat) (u:St) (A:K0.all (K.contains ·)=true) (h1:uR P F m x st (λe s=>e= .normal/\restr K z s=u)) (h2:uR P F m y u Q):uR P F m x st (UT P F m y Q):=
 ⟨λa w H=>Code.wpIn_mono (λe a' w' ⟨s,⟨he,hs⟩,hr⟩=>by subst he;exact⟨u,h2,hs▸wT.restr hr K z A⟩) (h1.run a w H)⟩
end
section
variable {P:Program} {tm:List (Nat×AV)} {h:List (Nat×wB)} {tx ty:Nat} {x y:Operand}
def fG {a:List Int} {v:Bool} (hx:yY (zM tm) x= .s (.string (strOfNums a))) (u:yY (zM tm) y= .s (.string (strOfNums b))) (hv:Zi a b=v):vC P ⟨tm,h⟩ (.binOp .eql tx x y ty) (.s (.bool v)) [] [] []:=hv▸fO hx u
def fH {a:List Int} {v:Bool} (hx:yY (zM tm) x= .s (.string (strOfNums a))) (u:yY (zM tm) y= .s (.string (strOfNums b))) (hv:Zi a b=v):vC P ⟨tm,h⟩ (.binOp .neq tx x y ty) (.s (.bool (!v))) [] [] []:=hv▸fP hx u
end
section
variable {P:Program} {K0:List Nat} {F:Fr K0} {m:Nat} {TT:List TI} {ops:Array Oper} {dr:Bool} {rest:List Oper} {tm:List (Nat×AV)} {h:List (Nat×wB)} {fs:List FP} {Q:List FP->St->Prop} {t ty:Nat} {pos:String} {after:Array Edge}
def cJ (kn:Nat) (R:qS P TT) {n:Nat} {kx ky:IntKind} {nx O:Int} {z:AV} (hx:yY (zM tm) x= .s (.int kx nx)) (W:yY (zM tm) y= .s (.int ky O)) (hT:TT[T]? =some ti) (hd:ti.d= .slice e) (S:TT[e]? =some te)
 (hb:Nat.ble te.bytes 65536=true) (V:Nat.ble 1 te.size=true) (M:Nat.beq (ln te.zero) te.size=true) (I:te.zero.all (·.oneCell')=true) (L:Nat.beq (uW te).cells.length te.size=true) (A:(uW te).cells=te.zero.map .s) (Y:uW te=z)
 (C:nx=(n:Int)) (E:nx<=O) (u:O<=1073741824) (U:Nat.blt t m=true) (B:(zE h kn).isNone=true)
 (G:te.size=sz) (hk:yQ P F m ops dr rest ⟨(t,.ref kn 0 n)::tm,(kn,.arr sz (nm n z) false)::h⟩ (⟨true,[kn,kn],[]⟩::fs) Q):yQ P F m ops dr (⟨some t,.makeSlice T x y,ty,pos,after,none⟩::rest) ⟨tm,h⟩ fs Q:=by
 subst G Y;exact qB (nw:=[kn]) (UZ R kn hx W hT hd S C E u hb V M I L A) U (Gd B) Z hk
end
