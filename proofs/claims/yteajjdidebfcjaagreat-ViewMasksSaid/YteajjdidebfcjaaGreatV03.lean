/- Part 3. -/
import Derived.Test.YteajjdidebfcjaaGreatProg
import Derived.Test.YteajjdidebfcjaaGreatV02
import Derived.RangeFuncIn
import Derived.RangeFuncSeq
import Derived.RangeFuncLeaves
import Derived.Laws.BytesArg
import Derived.Laws.Strings
import Derived.Laws.StructEq
namespace Go.Proofs.YteajjdidebfcjaaGreat
namespace Av
set_option linter.all false
abbrev zFN:TI:=⟨.func,1,8,[.nilFunc]⟩
abbrev zPT (n:Nat):TI:=⟨.ptr n,1,8,[.pointer none]⟩
abbrev zSL (n:Nat):TI:=⟨.slice n,1,24,[.slice none 0 0]⟩
abbrev zNL:Value:= .slice none 0 0
abbrev zZI:Value:= .int .i64 0
abbrev zTA:TI:=⟨.str [(0,3),(1,3),(2,3),(3,3),(4,3)],5,40,[zZI,zZI,zZI,zZI,zZI]⟩
abbrev zTB:TI:=⟨.int .u8,1,1,[.int .u8 0]⟩
abbrev zTC:TI:=⟨.other,1,0,[.tuple #[zNL,zZI]]⟩
abbrev zTD:TI:=⟨.str [(0,3),(1,3),(2,3)],3,24,[zZI,zZI,zZI]⟩
abbrev zTE:TI:=⟨.str [(0,3),(1,3)],2,16,[zZI,zZI]⟩
abbrev zTF:TI:=⟨.int .i64,1,8,[zZI]⟩
abbrev zTG:TI:=⟨.string,1,16,[.string ⟨#[]⟩]⟩
abbrev zTH:TI:=⟨.int .u64,1,8,[.int .u64 0]⟩
abbrev zTI:TI:=⟨.int .i32,1,4,[.int .i32 0]⟩
abbrev zTJ:TI:=⟨.str [(0,2),(1,3),(2,4),(3,6)],4,24,[zZI,zZI,.bool false,.int .u8 0]⟩
abbrev zTK:TI:=⟨.str [(0,9),(1,12)],2,24,[.string ⟨#[]⟩,.int .u64 0]⟩
abbrev zTL:TI:=⟨.str [(0,17)],1,8,[.pointer none]⟩
abbrev zTM:TI:=⟨.str [(0,27),(1,28),(2,3),(3,3),(4,3),(5,3)],6,80,[zNL,zNL,zZI,zZI,zZI,zZI]⟩
abbrev zTN:TI:=⟨.str [(0,32),(1,3),(2,3),(3,22),(4,3),(5,3),(6,3),(7,3)],8,96,[zNL,zZI,zZI,zNL,zZI,zZI,zZI,zZI]⟩
abbrev zTO:TI:=⟨.str [(0,3),(1,3),(2,3),(3,3),(4,32)],5,56,[zZI,zZI,zZI,zZI,zNL]⟩
abbrev zTP:TI:=⟨.str [(0,3),(1,32),(2,22),(3,32)],4,80,[zZI,zNL,zNL,zNL]⟩
abbrev zTQ:TI:=⟨.str [(0,43),(1,22),(2,3)],3,56,[zNL,zNL,zZI]⟩
abbrev zTR:TI:=⟨.other,1,0,[.tuple #[zNL,.bool false]]⟩
abbrev zTS:TI:=⟨.str [(0,67),(1,32)],2,48,[zNL,zNL]⟩
abbrev zTT:TI:=⟨.str [(0,3),(1,3),(2,3),(3,3),(4,3),(5,3),(6,3),(7,3)],8,64,[zZI,zZI,zZI,zZI,zZI,zZI,zZI,zZI]⟩
abbrev zTU:TI:=⟨.str [(0,22),(1,3)],2,32,[zNL,zZI]⟩
abbrev zTV:TI:=⟨.str [(0,30),(6,4),(7,3),(8,87),(9,88),(10,89),(11,22),(12,76)],13,216,[zNL,zNL,zZI,zZI,zZI,zZI,.bool false,zZI,zNL,zNL,zNL,zNL,zNL]⟩
abbrev zTW:TI:=⟨.str [(0,91),(13,92)],14,240,[zNL,zNL,zZI,zZI,zZI,zZI,.bool false,zZI,zNL,zNL,zNL,zNL,zNL,zNL]⟩
abbrev zTX:TI:=⟨.str [(0,3),(1,3),(2,3),(3,3)],4,32,[zZI,zZI,zZI,zZI]⟩
abbrev zTY:TI:=⟨.str [(0,3),(1,34),(9,108),(10,109),(11,111)],14,176,[zZI,zNL,zZI,zZI,zNL,zZI,zZI,zZI,zZI,zNL,zNL,zZI,zZI,zZI]⟩
abbrev zTZ:TI:=⟨.str [(0,113),(14,114),(15,67),(16,115)],17,248,[zZI,zNL,zZI,zZI,zNL,zZI,zZI,zZI,zZI,zNL,zNL,zZI,zZI,zZI,zNL,zNL,zNL]⟩
abbrev zUA:TI:=⟨.str [(0,117),(17,92)],18,272,[zZI,zNL,zZI,zZI,zNL,zZI,zZI,zZI,zZI,zNL,zNL,zZI,zZI,zZI,zNL,zNL,zNL,zNL]⟩
abbrev zUB:TI:=⟨.other,1,0,[.tuple #[zZI,zZI]]⟩
abbrev zUC:TI:=⟨.str [(0,32),(1,4)],2,32,[zNL,.bool false]⟩
abbrev zUD:TI:=⟨.str [(0,4),(1,4),(2,127)],4,40,[.bool false,.bool false,zNL,.bool false]⟩
abbrev zUE:TI:=⟨.str [(0,62),(1,3),(2,32)],3,40,[zZI,zZI,zNL]⟩
abbrev zUF:TI:=⟨.str [(0,3),(1,3),(2,139)],5,56,[zZI,zZI,zZI,zZI,zNL]⟩
abbrev zUG:TI:=⟨.str [(0,4),(1,4),(2,22),(3,22)],4,56,[.bool false,.bool false,zNL,zNL]⟩
abbrev zUH:TI:=⟨.str [(0,3),(1,3),(2,3),(3,3),(4,170)],5,56,[zZI,zZI,zZI,zZI,zNL]⟩
abbrev zUI:TI:=⟨.str [(0,4),(1,71)],2,32,[.bool false,zNL]⟩
abbrev zUJ:TI:=⟨.str [(0,3),(1,3),(2,3),(3,3),(4,3),(5,3)],6,48,[zZI,zZI,zZI,zZI,zZI,zZI]⟩
abbrev zUK:TI:=⟨.str [(0,211),(1,3),(2,22),(3,3)],4,64,[zNL,zZI,zNL,zZI]⟩
abbrev zUL:TI:=⟨.str [(0,213),(4,4)],5,72,[zNL,zZI,zNL,zZI,.bool false]⟩
abbrev zUM:TI:=⟨.str [(0,3),(1,3),(2,22)],3,40,[zZI,zZI,zNL]⟩
abbrev zUN:TI:=⟨.str [(0,186),(1,191)],2,48,[zNL,zNL]⟩
abbrev zUO:TI:=⟨.str [(0,3),(1,3),(2,62)],3,24,[zZI,zZI,zZI]⟩
abbrev zUP:TI:=⟨.str [(0,4),(1,32),(2,3),(3,3),(4,3),(5,3)],6,64,[.bool false,zNL,zZI,zZI,zZI,zZI]⟩
abbrev zUQ:TI:=⟨.str [(0,17),(1,17),(2,17),(3,9)],4,40,[.pointer none,.pointer none,.pointer none,.string ⟨#[]⟩]⟩
abbrev zUR:TI:=⟨.str [(0,408)],0,0,[]⟩
abbrev zUS:TI:=⟨.str [(0,12),(1,12),(2,133),(3,412),(4,5),(5,5),(6,413),(7,414),(8,415),(9,416),(10,417)],11,48,[.int .u64 0,.int .u64 0,.int .u32 0,.int .u8 0,.int .u8 0,.int .u8 0,.int .u8 0,.nilFunc,.pointer none,.int .i32 0,.int .i32 0]⟩
def TT:List TI:=[⟨.other,1,0,[.tuple #[]]⟩,zFN,zTF,zTF,⟨.bool,1,1,[.bool false]⟩,zTB,zTB,zTJ,zTJ,zTG,zTG,zTG,zTH,zTK,zTK,zPT 407,zPT 410,zPT 419,zTL,zTL,⟨.other,1,16,[.nilIface]⟩,zTI,zSL 3,zFN,zFN,zPT 84,zFN,zSL 45,zSL 34,zTM,zTM,zFN,zSL 5,zTN,zTN,zSL 37,zTO,zTO,zTP,zTP,zFN,zFN,zFN,zSL 81,zTQ,zTQ,zFN,zFN,zFN,zFN,zSL 78,zFN,zSL 76,zFN,zSL 67,zTR,zFN,zFN,zFN,zFN,zFN,zFN,zTF,zTC,zFN,zFN,zFN,zSL 32,zFN,zFN,zFN,zSL 139,zFN,zFN,zFN,zFN,zSL 150,zTS,zTS,zFN,zTT,zTT,zFN,zTU,zTU,zFN,zFN,zSL 117,zSL 215,zSL 218,zTV,zTV,zSL 129,zTW,zTW,zFN,⟨.other,1,8,[.map none]⟩,⟨.other,1,0,[.tuple #[.agg #[zNL,zNL,zZI,zZI,zZI,zZI,.bool false,zZI,zNL,zNL,zNL,zNL,zNL,zNL],.agg #[zNL,zNL],.bool false]]⟩,zFN,zFN,zSL 103,zFN,zTX,zTX,zFN,zFN,zFN,zFN,zSL 279,zSL 313,zTD,zTD,zTY,zTY,zSL 172,zSL 4,zTZ,zTZ,zFN,zUA,zUA,zFN,zFN,zFN,zUB,zFN,zUC,zUC,zUD,zUD,zFN,zFN,zTH,⟨.int .u32,1,4,[.int .u32 0]⟩,zFN,zFN,zFN,zFN,zUE,zUE,zUF,zUF,⟨.other,1,0,[.tuple #[.agg #[zZI,zNL,zNL,zNL],zZI]]⟩,zFN,⟨.arr 4 5,4,4,[.int .u8 0,.int .u8 0,.int .u8 0,.int .u8 0]⟩,zTR,zFN,⟨.other,1,0,[.tuple #[.agg #[zNL,.bool false],zNL]]⟩,zFN,zUG,zUG,zFN,zFN,zSL 155,zFN,⟨.arr 2 3,2,16,[zZI,zZI]⟩,zFN,zFN,zFN,zFN,zFN,zFN,⟨.other,1,0,[.tuple #[.agg #[zNL,zNL,zZI,zZI,zZI,zZI,.bool false,zZI,zNL,zNL,zNL,zNL,zNL,zNL],.agg #[zNL,zNL]]]⟩,zFN,zFN,zSL 167,zTA,zTA,zFN,zFN,zSL 174,zUH,zUH,zTA,zTA,zFN,zTH,zFN,zFN,zFN,zPT 120,zSL 183,zUI,zUI,⟨.other,1,0,[.tuple #[.agg #[.bool false,.bool false,zNL,.bool false],.agg #[.bool false,zNL]]]⟩,zFN,zSL 191,zSL 238,⟨.other,1,0,[.tuple #[.agg #[zZI,zNL,zZI,zZI,zNL,zZI,zZI,zZI,zZI,zNL,zNL,zZI,zZI,zZI,zNL,zNL,zNL],zNL,zNL,zNL]]⟩,zFN,zFN,zSL 39,zFN,zFN,zFN,zFN,⟨.other,1,0,[.tuple #[.agg #[zZI,zZI,zNL],zZI,.bool false]]⟩,zFN,
 zUJ,zUJ,⟨.other,1,0,[.tuple #[.agg #[zZI,zZI,zZI,zZI,zZI,zZI],.bool false]]⟩,zFN,⟨.other,1,0,[.tuple #[zNL,zNL,.bool false]]⟩,zFN,zTA,zTA,zFN,zFN,zFN,zFN,zFN,zSL 253,zUK,zUK,zUL,zUL,zFN,zUM,zUM,zFN,zFN,zFN,⟨.other,1,0,[.tuple #[.agg #[zNL,.bool false],.bool false]]⟩,zFN,zPT 117,zUN,zUN,⟨.other,1,0,[.tuple #[.agg #[zNL,zNL,zZI,zZI,zZI,zZI,.bool false,zZI,zNL,zNL,zNL,zNL,zNL],.agg #[zNL,zNL]]]⟩,zFN,zFN,zFN,zFN,zFN,zFN,zFN,zFN,zFN,zUO,zUO,⟨.other,1,0,[.tuple #[.agg #[zZI,zNL,zZI,zZI,zNL,zZI,zZI,zZI,zZI,zNL,zNL,zZI,zZI,zZI,zNL,zNL,zNL],.agg #[zZI,zNL,zNL,zNL],.agg #[zZI,zZI,zZI],zZI]]⟩,zFN,zFN,zFN,zFN,zFN,zFN,⟨.other,1,0,[.tuple #[zZI,zZI,zZI]]⟩,zFN,zFN,zFN,zFN,zFN,zTE,zTE,zFN,zFN,zFN,zFN,zFN,zFN,zFN,zSL 186,⟨.other,1,0,[.tuple #[zNL,zNL,zNL]]⟩,zFN,⟨.other,1,0,[.tuple #[.agg #[zNL,zZI,zNL,zZI,.bool false],.bool false]]⟩,zFN,zFN,zPT 91,zFN,zFN,zFN,zTD,zTD,zFN,zFN,zFN,zFN,zFN,zUP,zUP,zFN,zFN,zFN,zFN,zFN,zFN,zFN,⟨.other,1,0,[.tuple #[.agg #[zZI,zNL,zZI,zZI,zNL,zZI,zZI,zZI,zZI,zNL,zNL,zZI,zZI,zZI,zNL,zNL,zNL],.agg #[zZI,zNL,zNL,zNL],zZI,zZI]]⟩,zFN,zFN,zFN,zFN,zFN,zFN,zFN,⟨.other,1,0,[.tuple #[zZI,.bool false]]⟩,zFN,zFN,zFN,zPT 213,zFN,zFN,⟨.other,1,0,[.tuple #[.agg #[zNL,zZI,zNL,zZI,.bool false],.agg #[zZI,zZI,zNL]]]⟩,zFN,zFN,zFN,zFN,zFN,zFN,zFN,zFN,zFN,zTE,zTE,⟨.other,1,0,[.tuple #[.agg #[zZI,zNL,zZI,zZI,zNL,zZI,zZI,zZI,zZI,zNL,zNL,zZI,zZI,zZI],zZI,zZI]]⟩,zFN,⟨.other,1,0,[.tuple #[.agg #[zZI,zNL,zZI,zZI,zNL,zZI,zZI,zZI,zZI,zNL,zNL,zZI,zZI,zZI,zNL,zNL,zNL],.agg #[zZI,zNL,zNL,zNL],zZI]]⟩,zFN,zTC,zFN,zFN,zFN,zFN,zFN,zFN,zFN,zFN,zFN,zFN,zFN,zFN,zFN,zFN,zFN,zUB,zFN,⟨.other,1,0,[.tuple #[.agg #[zZI,zZI,zZI],.bool false]]⟩,zFN,
 ⟨.other,1,0,[.tuple #[.agg #[zZI,zNL,zZI,zZI,zNL,zZI,zZI,zZI,zZI,zNL,zNL,zZI,zZI,zZI],.agg #[zZI,zNL,zNL,zNL],.bool false,zZI]]⟩,zFN,zFN,zFN,zFN,zFN,zFN,zFN,zFN,zFN,zFN,zFN,zFN,zFN,zFN,zPT 113,zTC,zFN,zFN,zTC,zFN,zFN,⟨.other,1,0,[.tuple #[.agg #[zZI,zZI],.bool false]]⟩,zFN,⟨.other,1,0,[.tuple #[.agg #[zZI,zZI,zZI,zZI,zZI],zZI]]⟩,zFN,zFN,zFN,zFN,zFN,zFN,zFN,zFN,zFN,zFN,zFN,zFN,⟨.other,1,0,[.tuple #[zNL,zZI,zZI]]⟩,zFN,zFN,zFN,zFN,zFN,zFN,zFN,zFN,zFN,zFN,zFN,zFN,zFN,zFN,zFN,zFN,zFN,zFN,zFN,zFN,zSL 109,zFN,zFN,zFN,zFN,zFN,zFN,zFN,zFN,zFN,zUQ,zUQ,⟨.arr 0 16,0,0,[]⟩,zUR,zUR,zFN,zTB,zTB,zFN,zPT 5,zTI,zTI,zUS,zUS,⟨.other,1,8,[.pointer none]⟩]
def tok:uZ Tryz.prog TT:=zAr VJ
section
variable {P:Program} {TT:List TI} {K0:List Nat} {F:Fr K0} {m:Nat} {ops:Array Oper} {rest:List Oper} {Q:List FP->St->Prop} {tm:List (Nat×AV)} {h:List (Nat×xN)} {dr:Bool} {fs:List FP}
variable {ty:Nat} {pos:String} {after:Array Edge} {t:Nat}
def zAl {h:List (Nat×xN)} {t:Nat} (hn:(zC h t).isNone=true): [t].all (λj=>(zC h j).isNone)=true:=by simpa using hn
def uU (hP:uZ P TT) {T i:Nat} {x:Operand} {xs cs:List AV} {ti:TI} (hx:yM (zG tm) x= .fp xs i 0) (hT:TT[T]? =some ti) (ha:ti.d.agg=true) (hy:xs[i]? =some (.agg cs)) (hs:Nat.beq ti.size cs.length=true):
  wV P ⟨tm,h⟩ (.load T x) (.agg cs) [] [] []:=by
 have e:=zY2 hs;refine YI hP hx hy hT ?_;unfold ldv;rw[ha,e];simp[AV.cells,yBw (zX7 cs.length)]
def uV (hP:uZ P TT) {T i off:Nat} {x:Operand} {xs:List AV} {y v:AV} {ti:TI} (hx:yM (zG tm) x= .fp xs i off) (hT:TT[T]? =some ti) (ha:ti.d.agg=false) (hy:xs[i]? =some y) (hv:y.cells[off]? =some v):
  wV P ⟨tm,h⟩ (.load T x) v [] [] []:=by
 refine YI hP hx hy hT ?_;unfold ldv;rw[ha];exact hv
def uC (hP:uZ P TT) {T k i sz:Nat} {x:Operand} {xs cs:List AV} {sl:Fl} {ti:TI} (hx:yM (zG tm) x= .ptr k i 0) (hk:zC h k=some (.arr sz xs sl)) (hT:TT[T]? =some ti) (ha:ti.d.agg=true) (hy:xs[i]? =some (.agg cs)) (hs:Nat.beq ti.size cs.length=true):
  wV P ⟨tm,h⟩ (.load T x) (.agg cs) [] [k] []:=by
 have e:=zY2 hs;refine dP hP hx hk hy hT ?_;unfold ldv;rw[ha,e];simp[AV.cells,yBw (zX7 cs.length)]
def uD (hP:uZ P TT) {T k i off sz:Nat} {x:Operand} {xs:List AV} {sl:Fl} {y v:AV} {ti:TI} (hx:yM (zG tm) x= .ptr k i off) (hk:zC h k=some (.arr sz xs sl)) (hT:TT[T]? =some ti) (ha:ti.d.agg=false) (hy:xs[i]? =some y) (hv:y.cells[off]? =some v):
  wV P ⟨tm,h⟩ (.load T x) v [] [k] []:=by
 refine dP hP hx hk hy hT ?_;unfold ldv;rw[ha];exact hv
def uE (hP:uZ P TT) {T e:Nat} {s x:Operand} {ti te:TI} {xv:AV} {ys:List AV} (hs:yM (zG tm) s= .s (.slice none 0 0)) (hx:yM (zG tm) x=xv) (hT:TT[T]? =some ti) (hd:ti.d= .slice e) (he:TT[e]? =some te)
  (hys:DY (zC h) xv=some ys) (hsz:∀y,ys[0]? =some y->y.cells.length=te.size) (hp:Nat.ble 1 te.size=true) (hb:Nat.ble te.bytes 65536=true) (hz:Nat.beq te.zero.length te.size=true) (hn:ys.length<=1073741824) (hm:Nat.blt t m=true) (hnn:(zC h t).isNone=true)
  {sz:Nat} (hse:te.size=sz) (hk:yE P F m ops dr rest ⟨(t,.ref t 0 ys.length)::tm,(t,.arr sz ys false)::h⟩ (⟨true,[t,t],PH xv⟩::fs) Q) (hz1:te.zero.all (·.oneCell')=true:=by rfl):yE P F m ops dr (⟨some t,.call ⟨.builtin .append, #[s,x], #[T,T]⟩,ty,pos,after,none⟩::rest) ⟨tm,h⟩ fs Q:=by
 subst hse;exact qE (nw:=[t]) (YM hP t hs hx hT hd he hys hsz hp hb hz hz1 hn) hm (zAl hnn) Z hk
def zI9 (hP:uZ P TT) {T e n:Nat} {x y:Operand} {ti te:TI} {kx ky:IntKind} {nx ny:Int} {z:AV} (hx:yM (zG tm) x= .s (.int kx nx)) (hy:yM (zG tm) y= .s (.int ky ny)) (hT:TT[T]? =some ti) (hd:ti.d= .slice e) (he:TT[e]? =some te)
  (hb:Nat.ble te.bytes 65536=true) (hp:Nat.ble 1 te.size=true) (hzl:Nat.beq te.zero.length te.size=true) (hz1:te.zero.all (·.oneCell')=true) (hzc:Nat.beq (uN te).cells.length te.size=true) (hzc2:(uN te).cells=te.zero.map .s) (hz:uN te=z)
  (hnx:nx=(n:Int)) (hny:nx<=ny) (hmax:ny<=1073741824) (hm:Nat.blt t m=true) (hnn:(zC h t).isNone=true)
  {sz:Nat} (hse:te.size=sz) (hk:yE P F m ops dr rest ⟨(t,.ref t 0 n)::tm,(t,.arr sz (List.replicate n z) false)::h⟩ (⟨true,[t,t],[]⟩::fs) Q):yE P F m ops dr (⟨some t,.makeSlice T x y,ty,pos,after,none⟩::rest) ⟨tm,h⟩ fs Q:=by
 subst hse hz;exact qE (nw:=[t]) (XZ hP t hx hy hT hd he hnx hny hmax hb hp hzl hz1 hzc hzc2) hm (zAl hnn) Z hk
def uF (hP:uZ P TT) {T e:Nat} {s x:Operand} {ti te:TI} {k sz len:Nat} {xs:List AV} {sb:Bool} {xv:AV} {ys:List AV} (hs:yM (zG tm) s= .ref k 0 len) (hk:zC h k=some (.arr sz xs ⟨sb,false⟩)) (hx:yM (zG tm) x=xv) (hT:TT[T]? =some ti) (hd:ti.d= .slice e) (he:TT[e]? =some te)
  (hys:DY (zC h) xv=some ys) (hss:Nat.beq sz te.size=true) (hb:Nat.ble te.bytes 65536=true) (hz:Nat.beq te.zero.length te.size=true) (hlen:len=xs.length) (hsz:∀y,ys[0]? =some y->y.cells.length=sz) (hn:xs.length+ys.length<=1073741824) (hm:Nat.blt t m=true)
  (hr:yE P F m ops dr rest ⟨(t,.ref k 0 (xs++ys).length)::tm,(k,.arr sz (xs++ys) true)::h⟩ (⟨true,[k],k::PH xv⟩::fs) Q) (hz1:te.zero.all (·.oneCell')=true:=by rfl):yE P F m ops dr (⟨some t,.call ⟨.builtin .append, #[s,x], #[T,T]⟩,ty,pos,after,none⟩::rest) ⟨tm,h⟩ fs Q:=by
 subst hlen;exact qE (nw:=[]) (OZ hP hs hk hx hT hd he hys hsz hss hb hz hz1 hn) hm Z Z hr
def kQ (hP:uZ P TT) {T e:Nat} {s x:Operand} {ti te:TI} {k sz len:Nat} {xs:List AV} {sl:Fl} {xv:AV} {ys:List AV} (hs:yM (zG tm) s= .ref k 0 len) (hk:zC h k=some (.arr sz xs sl)) (hx:yM (zG tm) x=xv) (hT:TT[T]? =some ti) (hd:ti.d= .slice e) (he:TT[e]? =some te)
  (hys:TP true (zC h) xv=some ys) (hss:Nat.beq sz te.size=true) (hb:Nat.ble te.bytes 65536=true) (hz:Nat.beq te.zero.length te.size=true) (hlen:len=xs.length) (hsz:∀y,ys[0]? =some y->y.cells.length=sz) (hn:xs.length+ys.length<=1073741824) (hm:Nat.blt t m=true)
  (hr:yE P F m ops dr rest ⟨(t,.ref k 0 (xs++ys).length)::tm,(k,.arr sz (xs++ys) ⟨true,true⟩)::h⟩ (⟨true,[k],k::PH xv⟩::fs) Q) (hz1:te.zero.all (·.oneCell')=true:=by rfl):yE P F m ops dr (⟨some t,.call ⟨.builtin .append, #[s,x], #[T,T]⟩,ty,pos,after,none⟩::rest) ⟨tm,h⟩ fs Q:=by
 subst hlen;exact qE (nw:=[]) (QN hP hs hk hx hT hd he hys hsz hss hb hz hz1 hn) hm Z Z hr
section
variable {op:BinOp} {tx t2:Nat} {x y:Operand} {k:IntKind} {a b:Int} (hx:yM (zG tm) x= .s (.int k a)) (hy:yM (zG tm) y= .s (.int k b))
include hx hy
def zJa (hh:a<b):wV P ⟨tm,h⟩ (.binOp .lss tx x y t2) (.s (.bool true)) [] [] []:=by have:=IP (P:=P) (st:=⟨tm,h⟩) (tx:=tx) (ty:=t2) hx hy;rwa [zYa hh]at this
def zJb (hh:¬a<b):wV P ⟨tm,h⟩ (.binOp .lss tx x y t2) (.s (.bool false)) [] [] []:=by have:=IP (P:=P) (st:=⟨tm,h⟩) (tx:=tx) (ty:=t2) hx hy;rwa [zYb hh]at this
def zJc (hh:a<=b):wV P ⟨tm,h⟩ (.binOp .leq tx x y t2) (.s (.bool true)) [] [] []:=by have:=IQ (P:=P) (st:=⟨tm,h⟩) (tx:=tx) (ty:=t2) hx hy;rwa [zYa hh]at this
def zJd (hh:¬a<=b):wV P ⟨tm,h⟩ (.binOp .leq tx x y t2) (.s (.bool false)) [] [] []:=by have:=IQ (P:=P) (st:=⟨tm,h⟩) (tx:=tx) (ty:=t2) hx hy;rwa [zYb hh]at this
def zJe (hh:b<a):wV P ⟨tm,h⟩ (.binOp .gtr tx x y t2) (.s (.bool true)) [] [] []:=by have:=IR (P:=P) (st:=⟨tm,h⟩) (tx:=tx) (ty:=t2) hx hy;rwa [zYa hh]at this
def zJf (hh:¬b<a):wV P ⟨tm,h⟩ (.binOp .gtr tx x y t2) (.s (.bool false)) [] [] []:=by have:=IR (P:=P) (st:=⟨tm,h⟩) (tx:=tx) (ty:=t2) hx hy;rwa [zYb hh]at this
def zJg (hh:b<=a):wV P ⟨tm,h⟩ (.binOp .geq tx x y t2) (.s (.bool true)) [] [] []:=by have:=IS (P:=P) (st:=⟨tm,h⟩) (tx:=tx) (ty:=t2) hx hy;rwa [zYa hh]at this
def zJh (hh:¬b<=a):wV P ⟨tm,h⟩ (.binOp .geq tx x y t2) (.s (.bool false)) [] [] []:=by have:=IS (P:=P) (st:=⟨tm,h⟩) (tx:=tx) (ty:=t2) hx hy;rwa [zYb hh]at this
def zJi (hh:a=b):wV P ⟨tm,h⟩ (.binOp .eql tx x y t2) (.s (.bool true)) [] [] []:=by have:=IN (P:=P) (st:=⟨tm,h⟩) (tx:=tx) (ty:=t2) hx hy;rwa [show(a==b)=true by simpa using hh]at this
def zJj (hh:a≠b):wV P ⟨tm,h⟩ (.binOp .eql tx x y t2) (.s (.bool false)) [] [] []:=by have:=IN (P:=P) (st:=⟨tm,h⟩) (tx:=tx) (ty:=t2) hx hy;rwa [show(a==b)=false by simpa using hh]at this
def zJk (hh:a≠b):wV P ⟨tm,h⟩ (.binOp .neq tx x y t2) (.s (.bool true)) [] [] []:=by have:=IO (P:=P) (st:=⟨tm,h⟩) (tx:=tx) (ty:=t2) hx hy;rwa [show(a != b)=true by simpa using hh]at this
def zJl (hh:a=b):wV P ⟨tm,h⟩ (.binOp .neq tx x y t2) (.s (.bool false)) [] [] []:=by have:=IO (P:=P) (st:=⟨tm,h⟩) (tx:=tx) (ty:=t2) hx hy;rwa [show(a != b)=false by simpa using hh]at this
end
end
def frc {β:Type} (v:AV) (K:AV->Option β):Option β:=match v with
 | .s v=>K (.s v)
 | .ptr k i o=>K (.ptr k i o)
 | .agg cs=>K (.agg cs)
 | .sl b xs=>K (.sl b xs)
 | .slc b xs=>K (.slc b xs)
 | .ref k o n=>K (.ref k o n)
 | .fp xs i o=>K (.fp xs i o)
 | .fn f cs=>K (.fn f cs)
 | .tup vs=>K (.tup vs)
 | .bot=>K .bot
 | .gh n=>K (.gh n)
 | .fm o p=>K (.fm o p)
def YE {β:Type} (v:AV) (K:AV->Option β):frc v K=K v:=by cases v<;>rfl
def QJ {β:Type}:List AV->(List AV->Option β)->Option β
 | [],K=>K []
 |x::r,K=>frc x λx=>QJ r λr=>K (x::r)
theorem gL {β:Type}:∀(l:List AV) (K:List AV->Option β),QJ l K=K l
 | [],_=>rfl
 |x::r,K=>by rw[QJ,YE,gL r]
abbrev Res:=AV×List (Nat×xN)×List Nat×List Nat
def ldR (ti:TI) (row:List AV) (off:Nat) (r:List Nat):Option Res:=
 bif ti.d.agg then(bif Nat.ble (off+ti.size) row.length then QJ ((row.drop off).take ti.size) λl=>some (.agg l,[],r,[])else none)
 else match row[off]? with
  |some v=>frc v λv=>some (v,[],r,[])
  |none=>none
def zCx:BinOp->Bool
 | .eql| .neq| .lss| .leq| .gtr| .geq=>true
 |_=>false
def cZ:Nat->List Nat->Bool
 |_,[]=>true
 |n,x::r=>Nat.beq x n&&cZ (n+1) r
def exec (TT:List TI) (tm:List (Nat×AV)) (h:List (Nat×xN)) (t:Nat):Op->Option Res
 | .move x=>frc (yM (zG tm) x) λv=>some (v,[],[],[])
 | .assign x=>frc (yM (zG tm) x) λv=>some (v,[],[],[])
 | .pick c x y=>match yM (zG tm) c with
  | .s (.bool b)=>bif b then frc (yM (zG tm) x) λv=>some (v,[],[],[])else frc (yM (zG tm) y) λv=>some (v,[],[],[])
  |_=>none
 | .extract x i=>match yM (zG tm) x with
  | .tup vs=>match vs[i]? with
   |some v=>frc v λv=>some (v,[],[],[])
   |none=>none
  |_=>none
 | .box _ x=>match yM (zG tm) x with
  | .agg cs=>some (.ptr t 0 0,[(t,.box cs)],[],[t])
  |v=>bif v.one then frc v λv=>some (.ptr t 0 0,[(t,.box [v])],[],[t])else none
 | .alloc T=>match TT[T]? with
  |some ti=>bif ti.zero.all (·.oneCell')then QJ (ti.zero.map AV.s) λl=>some (.ptr t 0 0,[(t,.box l)],[],[t])else none
  |none=>none
 | .load T x=>match yM (zG tm) x,TT[T]? with
  | .ptr k 0 off,some ti=>match zC h k with
   |some (.box cs)=>ldR ti cs off [k]
   |some (.arr _ xs _)=>match xs[0]? with
    |some y=>ldR ti y.cells off [k]
    |none=>none
   |_=>none
  | .ptr k (i+1) off,some ti=>match zC h k with
   |some (.arr _ xs _)=>match xs[i+1]? with
    |some y=>ldR ti y.cells off [k]
    |none=>none
   |_=>none
  | .fp xs i off,some ti=>match xs[i]? with
   |some y=>ldR ti y.cells off []
   |none=>none
  |_,_=>none
 | .store T p x=>match yM (zG tm) p,TT[T]? with
  | .ptr k 0 off,some ti=>match zC h k with
   |some (.box cs)=>frc (yM (zG tm) x) λv=>bif v.ok&&(Nat.beq v.cells.length ti.size&&Nat.ble (off+ti.size) cs.length)then QJ (TM cs off v.cells) λl=>some (.bot,[(k,.box l)],[k],[])else none
   |_=>none
  |_,_=>none
 | .fieldAddr T x f=>match yM (zG tm) x,TT[T]? with
  | .ptr k 0 off,some ti=>match zC h k,ti.d with
   | some (.box _),.str fs=>match fs[f]? with
    |some (o,ft)=>match TT[ft]? with
     |some tf=>bif Nat.ble 1 tf.size then some (.ptr k 0 (off+o),[],[k],[])else none
     |none=>none
    |none=>none
   |_,_=>none
  |_,_=>none
 | .field T x f=>match yM (zG tm) x,TT[T]? with
  | .agg cs,some ti=>match ti.d with
   | .str fs=>match fs[f]? with
    |some (o,ft)=>match TT[ft]? with
     |some tf=>ldR tf cs o []
     |none=>none
    |none=>none
   |_=>none
  |_,_=>none
 | .nilCheck x=>match yM (zG tm) x with
  | .ptr k 0 off=>match zC h k with
   |some (.box _)=>some (.ptr k 0 off,[],[k],[])
   |_=>none
  |_=>none
 | .unOp .not _ x=>match yM (zG tm) x with
  | .s (.bool b)=>some (.s (.bool !b),[],[],[])
  |_=>none
 | .makeFunc (.func f) ⟨[]⟩ cap=>QJ (cap.toList.map (yM (zG tm))) λl=>some (.fn f l,[],[],[])
 | .build T ps=>match TT[T]? with
  | some ti=>match ti.d with
   | .str fs=>bif ti.zero.all (·.oneCell')then(match zAx TT fs with
    |some pl=>match NA (pl[·]?) (ti.zero.map .s) (aX ⟨tm,h⟩ ps)with
     |some cs=>QJ cs λl=>some (.agg l,[],[],[])
     |none=>none
    |none=>none)else none
   | .arr _ e=>bif ti.zero.all (·.oneCell')then(match TT[e]? with
    |some te=>match NA (λi=>some (i*te.size,te.size)) (ti.zero.map .s) (aX ⟨tm,h⟩ ps)with
     |some cs=>QJ cs λl=>some (.agg l,[],[],[])
     |none=>none
    |none=>none)else none
   |_=>none
  |none=>none
 | .buildSlice T len ps=>match TT[T]? with
  | some ti=>match ti.d with
   | .slice e=>match TT[e]? with
    | some te=>bif cZ 0 (ps.toList.map (·.1))&&(Nat.beq ps.toList.length len&&(Nat.ble 1 te.size&&(Nat.ble (len*te.size) 65536&&Nat.beq te.zero.length te.size)))then
      QJ (ps.toList.map λp=>yM (zG tm) p.2) λxs=>bif xs.all (λx=>Nat.beq x.cells.length te.size&&(x.ok&&x.nokey))then some (.ref t 0 len,[(t,.arr te.size xs false)],[],[t])else none else none
    |none=>none
   |_=>none
  |none=>none
 | .call ⟨.builtin .len,⟨[x]⟩,⟨[T]⟩⟩=>match TT[T]? with
  | some ti=>match ti.d with
   | .slice _=>match yM (zG tm) x with
    | .sl _ xs=>some (.s (.int .i64 xs.length),[],[],[])
    | .ref k _ len=>match zC h k with
     |some (.arr _ _ _)=>some (.s (.int .i64 len),[],[k],[])
     |_=>none
    | .s (.slice _ n _)=>some (.s (.int .i64 n),[],[],[])
    |_=>none
   |_=>none
  |none=>none
 | .call ⟨.builtin .max,⟨[x,y]⟩,⟨[_,_]⟩⟩=>match yM (zG tm) x,yM (zG tm) y with
  | .s (.int .i64 m),.s (.int .i64 n)=>some (.s (.int .i64 (max m n)),[],[],[])
  |_,_=>none
 | .call ⟨.builtin .min,⟨[x,y]⟩,⟨[_,_]⟩⟩=>match yM (zG tm) x,yM (zG tm) y with
  | .s (.int .i64 m),.s (.int .i64 n)=>some (.s (.int .i64 (min m n)),[],[],[])
  |_,_=>none
 |_=>none
section
variable {P:Program} {TT:List TI} (hP:uZ P TT) {tm:List (Nat×AV)} {h:List (Nat×xN)} {t:Nat}
def OL {ti:TI} {row:List AV} {off:Nat} {r:List Nat} {v:AV} {d:List (Nat×xN)} {r' nw:List Nat} (he:ldR ti row off r=some (v,d,r',nw)):ldv ti.d.agg ti.size row off=some v/\d=[]/\r'=r/\nw=[]:=by
 unfold ldR at he;unfold ldv
 cases hb:ti.d.agg with
 |true=>
  simp only[hb,zZo,gL]at he
  cases hc:Nat.ble (off+ti.size) row.length with
  |true=>simp only[hc,zZo,zZh,zZ2]at he;simp[he.1,he.2.1,he.2.2.1,he.2.2.2]
  |false=>simp[hc]at he
 |false=>
  simp only[hb,zZ6]at he
  cases hr:row[off]? with
  |none=>simp[hr]at he
  |some u=>simp only[hr,YE,zZh,zZ2]at he;simp[he.1,he.2.1,he.2.2.1,he.2.2.2]
theorem VB:∀(l:List Nat) (n:Nat),cZ n l=true->∀(j:Nat) x,l[j]? =some x->x=n+j
 | [],_,_,_,_,h=>by simp at h
 |y::r,n,hr,0,x,h=>by simp at h;subst h;simp[cZ]at hr;omega
 |y::r,n,hr,j+1,x,h=>by
  simp only[cZ,zYg]at hr;have:=VB r (n+1) hr.2 j x TJ;omega
include hP in
theorem VC:∀{op:Op} {v:AV} {d:List (Nat×xN)} {r nw:List Nat},exec TT tm h t op=some (v,d,r,nw)->wV P ⟨tm,h⟩ op v d r nw:=by
 intro op v d r nw he;unfold exec at he;split at he
 ·simp only[YE,zZh,zZ2]at he;obtain⟨rfl,rfl,rfl,rfl⟩:=he;exact zJy Z
 ·simp only[YE,zZh,zZ2]at he;obtain⟨rfl,rfl,rfl,rfl⟩:=he;exact zAt Z
 ·split at he
  ·rename_i b hb
   cases b<;>simp only[zZo,zZ6,YE,zZh,zZ2]at he<;>obtain⟨rfl,rfl,rfl,rfl⟩:=he<;>exact zJz hb Z
  ·cases he
 ·split at he
  ·rename_i hx;split at he
   ·rename_i hv;simp only[YE,zZh,zZ2]at he;obtain⟨rfl,rfl,rfl,rfl⟩:=he;exact DS hx hv
   ·cases he
  ·cases he
 ·rename_i T x;generalize hx:yM (zG tm) x=u at he;by_cases ha:u.isAgg=true
  ·cases u<;>simp[AV.isAgg]at ha
   simp only[zZh,zZ2]at he;obtain⟨rfl,rfl,rfl,rfl⟩:=he;exact jM (v:= .agg _) t hx Z
  ·have he2:(bif u.one then some (AV.ptr t 0 0,[(t,xN.box [u])],([]:List Nat),[t])else none)=some (v,d,r,nw):=by
    cases u<;>first|exact he|(simp[AV.isAgg]at ha)
   cases ho:u.one with
   |false=>rw[ho]at he2;cases he2
   |true=>
    rw[ho]at he2;simp only[zZo,zZh,zZ2]at he2;obtain⟨rfl,rfl,rfl,rfl⟩:=he2
    have ok:u.ok=true:=by cases u<;>first|rfl|exact ho
    have e:u.cells=[u]:=by cases u<;>first|rfl|(simp[AV.one]at ho)
    have:=jM (P:=P) (T:=T) (st:=⟨tm,h⟩) t hx ok
    rwa [e]at this
 ·split at he
  ·rename_i ti hT
   cases hz:ti.zero.all (·.oneCell')with
   |false=>simp[hz]at he
   |true=>
    simp only[hz,zZo,gL,zZh,zZ2]at he;obtain⟨rfl,rfl,rfl,rfl⟩:=he;exact XG hP t hT hz
  ·cases he
 ·split at he
  ·rename_i k off ti hx hT;split at he
   ·rename_i cs hk;obtain⟨q1,rfl,rfl,rfl⟩:=OL he;exact IV hP hx hk hT q1
   ·rename_i xs _ hk;split at he
    ·rename_i y hy;obtain⟨q1,rfl,rfl,rfl⟩:=OL he;exact dP hP hx hk hy hT q1
    ·cases he
   ·cases he
  ·rename_i k i off ti hx hT;split at he
   ·rename_i xs _ hk;split at he
    ·rename_i y hy;obtain⟨q1,rfl,rfl,rfl⟩:=OL he;exact dP hP hx hk hy hT q1
    ·cases he
   ·cases he
  ·rename_i xs i off ti hx hT;split at he
   ·rename_i y hy;obtain⟨q1,rfl,rfl,rfl⟩:=OL he;exact YI hP hx hy hT q1
   ·cases he
  ·cases he
 ·rename_i T p x;split at he
  ·rename_i k off ti hp hT;split at he
   ·rename_i cs hk;rw[YE]at he
    cases hc:((yM (zG tm) x).ok&&(Nat.beq (yM (zG tm) x).cells.length ti.size&&Nat.ble (off+ti.size) cs.length))with
    |false=>rw[hc]at he;cases he
    |true=>
     rw[hc]at he;simp only[zZo,gL,zZh,zZ2]at he;obtain⟨rfl,rfl,rfl,rfl⟩:=he;simp only[zYg]at hc;exact MW hP hp Z hk hT hc.1 hc.2.1 hc.2.2
   ·cases he
  ·cases he
 ·split at he
  ·rename_i k off ti hx hT;split at he
   ·rename_i cs fs hk hd;split at he
    ·rename_i o ft hf;split at he
     ·rename_i tf hft
      cases hz:Nat.ble 1 tf.size with
      |false=>simp[hz]at he
      |true=>
       simp only[hz,zZo,zZh,zZ2]at he;obtain⟨rfl,rfl,rfl,rfl⟩:=he;exact TN hP hx hk hT hd hf hft hz
     ·cases he
    ·cases he
   ·cases he
  ·cases he
 ·split at he
  ·rename_i cs ti hx hT;split at he
   ·rename_i fs hd;split at he
    ·rename_i o ft hf;split at he
     ·rename_i tf hft;obtain⟨q1,rfl,rfl,rfl⟩:=OL he;exact zEy hP hx hT hd hf hft q1
     ·cases he
    ·cases he
   ·cases he
  ·cases he
 ·split at he
  ·rename_i hx;split at he
   ·rename_i hk;simp only[zZh,zZ2]at he;obtain⟨rfl,rfl,rfl,rfl⟩:=he;exact RH hx hk
   ·cases he
  ·cases he
 ·split at he
  ·rename_i hx;simp only[zZh,zZ2]at he;obtain⟨rfl,rfl,rfl,rfl⟩:=he;exact zOv hx
  ·cases he
 ·simp only[gL,zZh,zZ2]at he;obtain⟨rfl,rfl,rfl,rfl⟩:=he;exact IT
 ·split at he
  ·rename_i ti hT;split at he
   ·rename_i fs hd
    cases hz:ti.zero.all (·.oneCell')with
    |false=>simp[hz]at he
    | true=>
     simp only[hz,zZo]at he;split at he
     ·rename_i pl hpl;split at he
      ·rename_i cs hf;simp only[gL,zZh,zZ2]at he;obtain⟨rfl,rfl,rfl,rfl⟩:=he;exact zEz hP hT hd hz hpl hf
      ·cases he
     ·cases he
   ·rename_i e hd
    cases hz:ti.zero.all (·.oneCell')with
    |false=>simp[hz]at he
    | true=>
     simp only[hz,zZo]at he;split at he
     ·rename_i te hte;split at he
      ·rename_i cs hf;simp only[gL,zZh,zZ2]at he;obtain⟨rfl,rfl,rfl,rfl⟩:=he;exact MX hP hT hd hte hz hf
      ·cases he
     ·cases he
   ·cases he
  ·cases he
 ·split at he
  ·rename_i ti hT;split at he
   ·rename_i e hd;split at he
    ·rename_i T len ps _ _ _ te hte;rw[gL]at he
     cases hc:(cZ 0 (ps.toList.map (·.1))&&(Nat.beq ps.toList.length len&&(Nat.ble 1 te.size&&(Nat.ble (len*te.size) 65536&&Nat.beq te.zero.length te.size))))with
     |false=>rw[hc]at he;cases he
     | true=>
      rw[hc]at he;simp only[zZo]at he;generalize hxs:(ps.toList.map λp=>yM (zG tm) p.2)=xs at he
      cases hw:xs.all (λx=>Nat.beq x.cells.length te.size&&(x.ok&&x.nokey))with
      |false=>simp[hw]at he
      | true=>
       simp only[hw,zZo,zZh,zZ2]at he;obtain⟨rfl,rfl,rfl,rfl⟩:=he;simp only[zYg]at hc;obtain⟨c1,c2,c3,c4,c5⟩:=hc;refine yK hP t hT hd hte c3 ?_ (by rw[<-hxs];simpa using c2) hw c4 c5;rw[<-hxs];apply zZf;intro j;simp only[aX,zX8,yCn,zZm]
       cases hj:ps.toList[j]? with
       |none=>simp
       |some p=>
        have:=VB _ 0 c1 j p.1 (by simp[hj]);simp[this]
    ·cases he
   ·cases he
  ·cases he
 ·split at he
  ·rename_i ti hT;split at he
   ·rename_i hd;split at he
    ·rename_i hx;simp only[zZh,zZ2]at he;obtain⟨rfl,rfl,rfl,rfl⟩:=he;exact zAw hP hx hT hd
    ·rename_i hx;split at he
     ·rename_i hk;simp only[zZh,zZ2]at he;obtain⟨rfl,rfl,rfl,rfl⟩:=he;exact DW hP hx hk hT hd
     ·cases he
    ·rename_i hx;simp only[zZh,zZ2]at he;obtain⟨rfl,rfl,rfl,rfl⟩:=he;exact DX hP hx hT hd
    ·cases he
   ·cases he
  ·cases he
 ·split at he
  ·rename_i hx hy;simp only[zZh,zZ2]at he;obtain⟨rfl,rfl,rfl,rfl⟩:=he;exact zOw hx hy
  ·cases he
 ·split at he
  ·rename_i hx hy;simp only[zZh,zZ2]at he;obtain⟨rfl,rfl,rfl,rfl⟩:=he;exact zOx hx hy
  ·cases he
 ·cases he
end
def bK:BinOp->Int->Int->Prop
 | .eql,a,b=>a=b
 | .neq,a,b=>a≠b
 | .lss,a,b=>a<b
 | .leq,a,b=>a<=b
 | .gtr,a,b=>b<a
 | .geq,a,b=>b<=a
 |_,_,_=>False
def qQ:BinOp->Int->Int->Bool
 | .eql,a,b=>a==b
 | .neq,a,b=>a != b
 | .lss,a,b=>decide (a<b)
 | .leq,a,b=>decide (a<=b)
 | .gtr,a,b=>decide (b<a)
 | .geq,a,b=>decide (b<=a)
 |_,_,_=>false
section
variable {P:Program} {TT:List TI} {K0:List Nat} {F:Fr K0} {m:Nat} {ops:Array Oper} {rest:List Oper} {Q:List FP->St->Prop} {tm:List (Nat×AV)} {h:List (Nat×xN)} {dr:Bool} {fs:List FP}
variable {ty:Nat} {pos:String} {after:Array Edge} {t:Nat}
def wL (hP:uZ P TT) {op:Op} {v:AV} {r:List Nat} (he:exec TT tm h t op=some (v,[],r,[])) (hm:Nat.blt t m=true) (hk:yE P F m ops dr rest ⟨(t,v)::tm,h⟩ (⟨true,[],r⟩::fs) Q):
 yE P F m ops dr (⟨some t,op,ty,pos,after,none⟩::rest) ⟨tm,h⟩ fs Q:=zP (VC hP he) hm hk
def jX (hP:uZ P TT) {op:Op} {v:AV} {k:Nat} {e:xN} {r nw:List Nat} (he:exec TT tm h t op=some (v,[(k,e)],r,nw)) (hm:Nat.blt t m=true) (hn:nw.all (λj=>(zC h j).isNone)=true) (hd:uG [(k,e)]=true)
 (hk:yE P F m ops dr rest ⟨(t,v)::tm,(k,e)::h⟩ (⟨true,k::nw,r⟩::fs) Q):yE P F m ops dr (⟨some t,op,ty,pos,after,none⟩::rest) ⟨tm,h⟩ fs Q:=qE (VC hP he) hm hn hd hk
def jF (hP:uZ P TT) {op:Op} {v:AV} {k:Nat} {e:xN} {r nw:List Nat} (he:exec TT tm h 0 op=some (v,[(k,e)],r,nw)) (hn:nw.all (λj=>(zC h j).isNone)=true) (hd:uG [(k,e)]=true)
 (hk:yE P F m ops dr rest ⟨tm,(k,e)::h⟩ (⟨true,k::nw,r⟩::fs) Q):yE P F m ops dr (⟨none,op,ty,pos,after,none⟩::rest) ⟨tm,h⟩ fs Q:=x_s (VC hP he) hn hd hk
section
variable {op:BinOp} {tx t2:Nat} {x y:Operand} {k:IntKind} {a b:Int} (hop:zCx op=true) (hx:yM (zG tm) x= .s (.int k a)) (hy:yM (zG tm) y= .s (.int k b))
include hop hx hy
def dG:wV P ⟨tm,h⟩ (.binOp op tx x y t2) (.s (.bool (qQ op a b))) [] [] []:=by
 cases op<;>first
  |exact IN hx hy
  |exact IO hx hy
  |exact IP hx hy
  |exact IQ hx hy
  |exact IR hx hy
  |exact IS hx hy
  |(simp[zCx]at hop)
def jG (hh:bK op a b):wV P ⟨tm,h⟩ (.binOp op tx x y t2) (.s (.bool true)) [] [] []:=by
 cases op<;>first
  |exact zJi hx hy hh
  |exact zJk hx hy hh
  |exact zJa hx hy hh
  |exact zJc hx hy hh
  |exact zJe hx hy hh
  |exact zJg hx hy hh
  |(simp[zCx]at hop)
def jH (hh:¬bK op a b):wV P ⟨tm,h⟩ (.binOp op tx x y t2) (.s (.bool false)) [] [] []:=by
 cases op<;>first
  |exact zJj hx hy hh
  |exact zJl hx hy (by simpa [bK]using hh)
  |exact zJb hx hy hh
  |exact zJd hx hy hh
  |exact zJf hx hy hh
  |exact zJh hx hy hh
  |(simp[zCx]at hop)
end
end
def LT {X:Nat->Prop} {h:yJ} {β:uW} {w:World} (H:jK X h β w) {K:Nat} (hK:h K=none) {sz:Nat} (hp:1<=sz):xK X w h β w (over [(K,.arr sz [] true)] h) (bD β K []):=
 xK.step H K _ _ (zX7 _) (λ_ _ _=>rfl) Z Z Z (λb n hm=>by simp at hm) (λ_ _ _=>rfl) (λe he=>by rw[hK]at he;cases he) (λE=>⟨hp,by simp,λh=>absurd Z h,λi y hy=>by simp at hy,
  λb n r hr=>by rw[zZ]at hr;simp at hr,λ_ _=>undef,λi y j v hy _=>by simp at hy,λi j hi _=>by simp at hi,λb n hm=>by rw[zZ]at hm;simp at hm⟩)
def fW {d:List (Nat×xN)} {h:yJ} (hd:uG d=true) (nd:∀k,h k≠some .dead):∀k,over d h k≠some .dead:=λk=>by
 unfold over;split
 ·rename_i e he;intro h4;cases h4;exact qI hd he
 ·exact nd k
section
variable {P:Program} {K0:List Nat} {F:Fr K0} {m:Nat} {tm:List (Nat×AV)} {h:List (Nat×xN)}
theorem wN.virt {a:Act} {w:World} (H:wN F m ⟨tm,h⟩ a w) (t K sz:Nat) (hv:zG tm t= .s (.slice none 0 0)) (hK:(zC h K).isNone=true) (hp:Nat.ble 1 sz=true):wN F m ⟨(t,.ref K 0 0)::tm,(K,.arr sz [] true)::h⟩ a w:=by
 obtain⟨⟨X,β,hX,HH,Ht,KK,hJ,hD⟩,nd,gs,hl⟩:=H;have hk:zC h K=none:=by simpa using hK
 have G:=LT HH hk (zYm hp);have nd':∀k,over [(K,.arr sz [] true)] (zC h) k≠some .dead:=fW Z nd
 have R:VD F m (zG ((t,.ref K 0 0)::tm)) (over [(K,.arr sz [] true)] (zC h)) a w:=by
  refine⟨⟨X,_,hX,G.hok,λj=>?_,KK.goes G nd' (G.lives HH nd'),λi hi=>?_,hD.goes HH G⟩,nd',gs,hl⟩
  ·rw[yP];split
   ·rename_i hj;subst hj;have:=Ht j;rw[hv]at this;rw[this.s_inv];exact .ref0 K 0 sz [] true none (kC _ _ _) (zX7 _)
   ·exact(Ht j).evo G.evo
  ·rw[yP]at hi;split at hi
   ·cases hi
   ·exact F.go G (hJ i hi)
 unfold wN;dsimp only;rw[show zC ((K,.arr sz [] true)::h)=over [(K,.arr sz [] true)] (zC h)from vG [(K,.arr sz [] true)] h];exact R
theorem wN.virtB {a:Act} {w:World} (H:wN F m ⟨tm,h⟩ a w) (k i K sz:Nat) {cs:List AV} (hk:zC h k=some (.box cs)) (hv:cs[i]? =some (.s (.slice none 0 0))) (hK:(zC h K).isNone=true) (hp:Nat.ble 1 sz=true):wN F m ⟨tm,(k,.box (cs.set i (.ref K 0 0)))::(K,.arr sz [] true)::h⟩ a w:=by
 obtain⟨⟨X,β,hX,HH,Ht,KK,hJ,hD⟩,nd,gs,hl⟩:=H;have hkn:zC h K=none:=by simpa using hK
 have G:=LT HH hkn (zYm hp);have nd':∀k,over [(K,.arr sz [] true)] (zC h) k≠some .dead:=fW Z nd;have hne:k≠K:=λe=>by rw[e,hkn]at hk;cases hk
 have hk2:over [(K,.arr sz [] true)] (zC h) k=some (.box cs):=by rw[<-vG,yC8,xG,zX2 hne];exact hk
 have H2:=G.hok;have hβ:bD β K [] k=β k:=by unfold bD;rw[zX2 hne]
 have G2:xK X w _ (bD β K []) w (over [(k,.box (cs.set i (.ref K 0 0)))] (over [(K,.arr sz [] true)] (zC h))) (bD (bD β K []) k (bD β K [] k)):=
  xK.step H2 k (.box (cs.set i (.ref K 0 0))) (bD β K [] k) (zX7 _) (λ_ _ _=>rfl) Z Z Z (λb n hm=> .inl ⟨n,hm⟩) (λ_ _ _=>rfl) (λe he=>by rw[hk2]at he;cases he;exact .inr ⟨⟨_,rfl⟩,λb n hm=>hm⟩) (λE=>by
   obtain⟨b,c,el,h1,h2,h3,h4,h5⟩:=H2.ent k _ hk2;refine⟨b,c,el,by rw[zZ];exact h1,h2,by simpa using h3,h4,λj v hj=>?_⟩;rw[yAb]at hj;split at hj
   ·rename_i hij;subst hij;split at hj
    ·injection hj with hj
     subst hj;have h6:=h5 i _ hv;rw[h6.s_inv];refine .ref0 K 0 sz [] true none ?_ (zX7 _);rw[show over [(k,xN.box (cs.set i (.ref K 0 0)))] (over [(K,.arr sz [] true)] (zC h)) K=_ from by rw[<-vG,<-vG,yC8,yC8,xG,zX2 (λe=>hne e.symm),xG,zX3 Z]]
    ·cases hj
   ·exact(h5 j v hj).evo E)
 have nd2:=fW (d:=[(k,.box (cs.set i (.ref K 0 0)))]) Z nd'
 have R:VD F m (zG tm) (over [(k,.box (cs.set i (.ref K 0 0)))] (over [(K,.arr sz [] true)] (zC h))) a w:=
  ⟨⟨X,_,hX,G2.hok,λj=>((Ht j).evo G.evo).evo G2.evo,(KK.goes G nd' (G.lives HH nd')).goes G2 nd2 (G2.lives H2 nd2),λi hi=>F.go G2 (F.go G (hJ i hi)),(hD.goes HH G).goes H2 G2⟩,nd2,gs,hl⟩
 unfold wN;dsimp only;rw[show zC ((k,.box (cs.set i (.ref K 0 0)))::(K,.arr sz [] true)::h)=over [(k,.box (cs.set i (.ref K 0 0)))] (over [(K,.arr sz [] true)] (zC h))from(vG [(k,.box (cs.set i (.ref K 0 0)))] _).trans (zY3 (over _) (vG [(K,.arr sz [] true)] h))];exact R
def xA {c:Code} {Q:Exit->St->Prop} (t K sz:Nat) (hv:zG tm t= .s (.slice none 0 0)) (hK:(zC h K).isNone=true) (hp:Nat.ble 1 sz=true) (hk:uQ P F m c ⟨(t,.ref K 0 0)::tm,(K,.arr sz [] true)::h⟩ Q):uQ P F m c ⟨tm,h⟩ Q:=⟨λa w H=>hk.run a w (H.virt t K sz hv hK hp)⟩
def uY {c:Code} {Q:Exit->St->Prop} (k i K sz:Nat) {cs cs':List AV} (hb:zC h k=some (.box cs)) (hv:cs[i]? =some (.s (.slice none 0 0))) (hK:(zC h K).isNone=true) (hp:Nat.ble 1 sz=true) (hc:cs.set i (.ref K 0 0)=cs') (hk:uQ P F m c ⟨tm,(k,.box cs')::(K,.arr sz [] true)::h⟩ Q):
 uQ P F m c ⟨tm,h⟩ Q:=⟨λa w H=>hk.run a w (hc▸H.virtB k i K sz hb hv hK hp)⟩
end
section
variable {P:Program} {TT:List TI} (hP:uZ P TT) {tm:List (Nat×AV)} {h:List (Nat×xN)}
include hP in
def wP {T e:Nat} {x ix:Operand} {ti te:TI} {key len sz:Nat} {xs:List AV} {sl:Fl} {k:IntKind} {i:Int} (hx:yM (zG tm) x= .ref key 0 len) (hi:yM (zG tm) ix= .s (.int k i)) (hk:zC h key=some (.arr sz xs sl)) (hT:TT[T]? =some ti) (hd:ti.d= .slice e) (he:TT[e]? =some te)
  (h0:0<=i) (hl:i<len) (hs:Nat.beq sz te.size=true):wV P ⟨tm,h⟩ (.indexAddr T x ix) (.ptr key i.toNat 0) [] [key] []:=by
 have:=TO (st:=⟨tm,h⟩) hP hx hi hk hT hd he h0 hl hs
 rwa [zZm]at this
end
section
variable {P:Program} {K0:List Nat} {F:Fr K0} {m:Nat} {ops:Array Oper} {rest:List Oper} {Q:List FP->St->Prop} {dr:Bool} {fs:List FP}
variable {ty t:Nat} {pos:String} {after:Array Edge} {st:St}
def yD {s x:Operand} {T T':Nat} (hk:yE P F m ops dr (⟨some t,.call ⟨.builtin .append, #[s,x], #[T,T']⟩,ty,pos,after,none⟩::rest) st fs Q):yE P F m ops dr (⟨some t,.call ⟨.builtin .append, #[s,x], #[T,T']⟩,ty,pos,after,none⟩::rest) st fs Q:=hk
def vP (n:Nat) {asq:Array Operand} {ts:Array Nat} (hk:yE P F m ops dr (⟨some t,.call ⟨.value (.func n),asq,ts⟩,ty,pos,after,none⟩::rest) st fs Q):yE P F m ops dr (⟨some t,.call ⟨.value (.func n),asq,ts⟩,ty,pos,after,none⟩::rest) st fs Q:=hk
def dH {S D:Nat} {x:Operand} (hk:yE P F m ops dr (⟨some t,.convert S D x,ty,pos,after,none⟩::rest) st fs Q):yE P F m ops dr (⟨some t,.convert S D x,ty,pos,after,none⟩::rest) st fs Q:=hk
def bU {op:UnOp} {x:Operand} {T:Nat} (hk:yE P F m ops dr (⟨some t,.unOp op T x,ty,pos,after,none⟩::rest) st fs Q):yE P F m ops dr (⟨some t,.unOp op T x,ty,pos,after,none⟩::rest) st fs Q:=hk
end
def qL {P:Program} {TT:List TI} {tm:List (Nat×AV)} {h:List (Nat×xN)} {src dst:Nat} {x:Operand} {k k':IntKind} {n:Int} {ts td:TI} (hP:uZ P TT) (hs:TT[src]? =some ts) (hd:TT[dst]? =some td) (hk:td.d= .int k') (hx:yM (zG tm) x= .s (.int k n)) (hr:YH k' n):
  wV P ⟨tm,h⟩ (.convert src dst x) (.s (.int k' n)) [] [] []:=by
 have:=jV (st:=⟨tm,h⟩) hP hs hd hk hx
 rwa [kV hr]at this
def zTh (v:AV) (k:AV->Prop):Prop:=match v with
 | .s v=>k (.s v)
 | .ptr j i o=>k (.ptr j i o)
 | .agg cs=>k (.agg cs)
 | .sl b xs=>k (.sl b xs)
 | .slc b xs=>k (.slc b xs)
 | .ref j o n=>k (.ref j o n)
 | .fp xs i o=>k (.fp xs i o)
 | .fn f cs=>k (.fn f cs)
 | .tup vs=>k (.tup vs)
 | .bot=>k .bot
 | .gh n=>k (.gh n)
 | .fm o p=>k (.fm o p)
def zCy (v:AV) (k:AV->Prop):zTh v k=k v:=by cases v<;>rfl
def EZ:List AV->(List AV->Prop)->Prop
 | [],k=>k []
 |x::r,k=>zTh x λx=>EZ r λr=>k (x::r)
theorem OM:∀(l:List AV) (k:List AV->Prop),EZ l k=k l
 | [],_=>rfl
 |x::r,k=>by rw[EZ,zCy,OM r]
def eO (K:List Nat) (h:yJ) (tm:List (Nat×AV)):List Nat->(List (Nat×AV)->Prop)->Prop
 | [],k=>k []
 |t::ts,k=>zTh (wQ K h (zG tm t)) λv=>eO K h tm ts λr=>k ((t,v)::r)
theorem fG (K:List Nat) (h:yJ) (tm:List (Nat×AV)):∀(ts:List Nat) (k:List (Nat×AV)->Prop),eO K h tm ts k=k (ts.map λt=>(t,wQ K h (zG tm t)))
 | [],_=>rfl
 |t::ts,k=>by rw[eO,zCy,fG K h tm ts];rfl
def fD (K:List Nat) (h:yJ):List Nat->(List (Nat×xN)->Prop)->Prop
 | [],k=>k []
 |j::Ks,k=>match h j with
  |none=>fD K h Ks k
  |some (.box cs)=>EZ (qN K h cs) λcs=>fD K h Ks λr=>k ((j,.box cs)::r)
  |some (.arr sz xs st)=>bif st.nest then EZ (qN K h xs) λxs=>(bif wF xs then fD K h Ks λr=>k ((j,.arr sz xs ⟨st.stale,false⟩)::r)else fD K h Ks λr=>k ((j,.arr sz xs ⟨st.stale,true⟩)::r))else fD K h Ks λr=>k ((j,.arr sz xs st)::r)
  |some .dead=>fD K h Ks λr=>k ((j,.dead)::r)
  |some (.obj o)=>fD K h Ks λr=>k ((j,.obj o)::r)
theorem qY (K:List Nat) (h:yJ):∀(Ks:List Nat) (k:List (Nat×xN)->Prop),fD K h Ks k=k (Ks.filterMap λj=>(h j).map λe=>(j,kI K h e))
 | [],_=>rfl
 | j ::Ks,k=>by
  rw[fD,List.filterMap_cons]
  cases h j with
  |none=>exact qY K h Ks k
  | some e=>
   cases e with
   |box cs=>dsimp only[Option.map_some];rw[OM,qY K h Ks];rfl
   |obj cs=>dsimp only[Option.map_some];rw[qY K h Ks];rfl
   | arr sz xs st=>
    dsimp only[Option.map_some]
    cases hn:st.nest with
    |false=>
     have e:kI K h (.arr sz xs st)= .arr sz xs st:=by simp only[kI,hn,zZ6]
     rw[e];simp only[zZ6];rw[qY K h Ks]
    |true=>
     have e:kI K h (.arr sz xs st)= .arr sz (qN K h xs) ⟨st.stale,!wF (qN K h xs)⟩:=by simp only[kI,hn,zZo]
     rw[e];simp only[zZo];rw[OM]
     cases hk:wF (qN K h xs)with
     |true=>simp only[zZo,yDk];rw[qY K h Ks]
     |false=>simp only[zZ6,yC1];rw[qY K h Ks]
   |dead=>dsimp only[Option.map_some];rw[qY K h Ks];rfl
section
variable {P:Program} {K0:List Nat} {F:Fr K0} {m:Nat} {Q:Exit->St->Prop} {st:St} {c:Code}
def aN (Q:Exit->St->Prop) (I:St->Prop):Exit->St->Prop
 | .normal,s=>I s
 |e,s=>Q e s
def xT (N:Nat) (K Ks ts ds:List Nat) (hK:K0.all (K.contains ·)=true) (I:Nat->List (Nat×AV)->List (Nat×xN)->St->Prop)
  (h:eO K (zC st.h) st.tm ts λT=>fD K (zC st.h) Ks λU=>I 0 T U (restr K ds st)/\(∀i s,i<N->I i T U s->uQ P F m c s (aN Q λs=>I (i+1) T U (restr K ds s)))/\
   ∀s,I N T U s->uQ P F m c s (aN Q λ_=>False)):uQ P F m (.loop c) st Q:=by
 rw[fG,qY]at h;generalize (ts.map _)=T at h;generalize (Ks.filterMap _)=U at h;obtain⟨h0,h1,h2⟩:=h;refine vH (λn s=>∃i,n+i=N/\I i T U s) N K ds hK ⟨0,rfl,h0⟩ λn s ⟨i,hi,hs⟩=>?_
 by_cases hlt:i<N
 ·refine(h1 i s hlt hs).mono λe s' hq=>?_
  cases e with
  |normal=>exact⟨n-1,by omega,i+1,by omega,hq⟩
  |_=>exact hq
 ·obtain rfl:i=N:=by omega
  refine(h2 s hs).mono λe s' hq=>?_
  cases e with
  |normal=>exact hq.elim
  |_=>exact hq
def zS (N:Nat) (K Ks ts ds:List Nat) (hK:K0.all (K.contains ·)=true) (S:Nat->List (Nat×AV)->List (Nat×xN)->St)
  (h:eO K (zC st.h) st.tm ts λT=>fD K (zC st.h) Ks λU=>restr K ds st=S 0 T U/\(∀i,i<N->uQ P F m c (S i T U) (aN Q λs=>restr K ds s=S (i+1) T U))/\
   uQ P F m c (S N T U) (aN Q λ_=>False)):uQ P F m (.loop c) st Q:=by
 refine xT N K Ks ts ds hK (λi T U s=>s=S i T U) ?_;rw[fG,qY]at h⊢;obtain⟨h0,h1,h2⟩:=h;exact⟨h0,λi s hi hs=>hs▸h1 i hi,λs hs=>hs▸h2⟩
def gM (N:Nat) (K Ks ts ds:List Nat) (hK:K0.all (K.contains ·)=true) (I:Nat->List (Nat×AV)->List (Nat×xN)->St->Prop)
  (h:eO K (zC st.h) st.tm ts λT=>fD K (zC st.h) Ks λU=>I N T U (restr K ds st)/\∀n s,I n T U s->uQ P F m c s (aN Q λs=>∃n',n'<n/\I n' T U (restr K ds s))):uQ P F m (.loop c) st Q:=by
 rw[fG,qY]at h;generalize (ts.map _)=T at h;generalize (Ks.filterMap _)=U at h;obtain⟨h0,h1⟩:=h;refine vH (λn s=>I n T U s) N K ds hK h0 λn s hs=>(h1 n s hs).mono λe s' hq=>?_
 cases e with
 |normal=>exact hq
 |_=>exact hq
def yT {α:Type} (l:List α) (K Ks ts ds:List Nat) (hK:K0.all (K.contains ·)=true) (S:Nat->List α->List (Nat×AV)->List (Nat×xN)->St)
  (h:eO K (zC st.h) st.tm ts λT=>fD K (zC st.h) Ks λU=>restr K ds st=S 0 [] T U/\
   (∀i pre x post,l=pre++x::post->pre.length=i->uQ P F m c (S i pre T U) (aN Q λs=>restr K ds s=S (i+1) (pre++[x]) T U))/\
   uQ P F m c (S l.length l T U) (aN Q λ_=>False)):uQ P F m (.loop c) st Q:=by
 refine zS l.length K Ks ts ds hK (λi T U=>S i (l.take i) T U) ?_;rw[fG,qY]at h⊢;obtain⟨h0,h1,h2⟩:=h;refine⟨by simpa using h0,λi hi=>?_,by simpa using h2⟩;have:=h1 i (l.take i) l[i] (l.drop (i+1)) zQz xX;rw[yCz hi]at this;exact this
def kN {α:Type} (l:List α) (K Ks ts ds:List Nat) (hK:K0.all (K.contains ·)=true) (I:Nat->List α->List (Nat×AV)->List (Nat×xN)->St->Prop)
  (h:eO K (zC st.h) st.tm ts λT=>fD K (zC st.h) Ks λU=>I 0 [] T U (restr K ds st)/\
   (∀i pre x post s,l=pre++x::post->pre.length=i->I i pre T U s->uQ P F m c s (aN Q λs=>I (i+1) (pre++[x]) T U (restr K ds s)))/\
   ∀s,I l.length l T U s->uQ P F m c s (aN Q λ_=>False)):uQ P F m (.loop c) st Q:=by
 refine xT l.length K Ks ts ds hK (λi T U s=>I i (l.take i) T U s) ?_;rw[fG,qY]at h⊢;obtain⟨h0,h1,h2⟩:=h;refine⟨by simpa using h0,λi s hi hs=>?_,λs hs=>h2 s (by simpa using hs)⟩;have:=h1 i (l.take i) l[i] (l.drop (i+1)) s zQz xX hs;rw[yCz hi]at this;exact this
end
section
variable {α:Type} {l pre post:List α} {x:α} {i:Nat}
def yW (h:l=pre++x::post) (hi:pre.length=i):i<l.length:=by subst h;simp;omega
def xQ {β:Type} (f:α->β) (h:l=pre++x::post) (hi:pre.length=i):(l.map f)[i]? =some (f x):=by subst h;subst hi;simp
def vF (h:l=pre++x::post):x∈l:=by subst h;simp
def zA {β:Type} (f:α->β) (l:List α):(l.map f).length=l.length:=by simp
def zN {n:Nat} (f:α->AV) (l:List α) (h:∀x,(f x).cells.length=n):∀y,(l.map f)[0]? =some y->y.cells.length=n:=λy hy=>by
 rw[zX8,zYf]at hy;obtain⟨x,_,rfl⟩:=hy;exact h x
end
def zTi (TT:List TI) (tm:List (Nat×AV)):Op->Option (List AV)
 | .buildSlice T len ps=>match TT[T]? with
  | some ti=>match ti.d with
   | .slice e=>match TT[e]? with
    |some te=>bif cZ 0 (ps.toList.map (·.1))&&(Nat.beq ps.toList.length len&&(Nat.ble 1 te.size&&(Nat.ble (len*te.size) 65536&&Nat.beq te.zero.length te.size)))then
     QJ (ps.toList.map λp=>yM (zG tm) p.2) λxs=>bif xs.all (λx=>Nat.beq x.cells.length te.size&&(x.ok&&x.nokey))then some xs else none else none
    |none=>none
   |_=>none
  |none=>none
 |_=>none
section
variable {P:Program} {TT:List TI} (hP:uZ P TT) {tm:List (Nat×AV)} {h:List (Nat×xN)}
include hP in
def zAm {op:Op} {xs:List AV} (he:zTi TT tm op=some xs):wV P ⟨tm,h⟩ op (.sl true xs) [] [] []:=by
 unfold zTi at he;split at he
 ·rename_i T len ps;split at he
  ·rename_i ti hT;split at he
   ·rename_i e hd;split at he
    ·rename_i te hte;rw[gL]at he
     cases hc:(cZ 0 (ps.toList.map (·.1))&&(Nat.beq ps.toList.length len&&(Nat.ble 1 te.size&&(Nat.ble (len*te.size) 65536&&Nat.beq te.zero.length te.size))))with
     |false=>rw[hc]at he;cases he
     | true=>
      rw[hc]at he;simp only[zZo]at he;generalize hxs:(ps.toList.map λp=>yM (zG tm) p.2)=ys at he
      cases hw:ys.all (λx=>Nat.beq x.cells.length te.size&&(x.ok&&x.nokey))with
      |false=>simp[hw]at he
      | true=>
       simp only[hw,zZo,zZh]at he;subst he;simp only[zYg]at hc;obtain⟨c1,c2,c3,c4,c5⟩:=hc;refine QP hP hT hd hte c3 ?_ (by rw[<-hxs];simpa using c2) hw c4 c5;rw[<-hxs];apply zZf;intro j;simp only[aX,zX8,yCn,zZm]
       cases hj:ps.toList[j]? with
       |none=>simp
       |some p=>
        have:=VB _ 0 c1 j p.1 (by simp[hj]);simp[this]
    ·cases he
   ·cases he
  ·cases he
 ·cases he
end
theorem wV.wkS {P:Program} {st:St} {op:Op} {xs:List AV} {d:List (Nat×xN)} {r nw:List Nat} (hs:wV P st op (.sl true xs) d r nw):wV P st op (.sl false xs) d r nw:=
 ⟨λX tm h h1 h2 h3 o a w β ho HH Ht=>by
  have:=hs.run X tm h h1 h2 h3 o a w β ho HH Ht;unfold aU at this⊢;split at this
  ·obtain⟨β',G,hv⟩:=this;exact⟨β',G,hv.wk⟩
  ·obtain⟨β',G,hv⟩:=this;exact⟨β',G,hv.wk⟩
  ·exact this.mono λe w' ⟨c,he,β',G,hv⟩=>⟨c,he,β',G,hv.wk⟩
  ·exact this.elim⟩
def zTj (y:AV) (off:Nat) (cs:List AV):Option AV:=match y with
 | .agg ds=>QJ (TM ds off cs) λl=>some (.agg l)
 |_=>match cs with
  | [v]=>frc v some
  |_=>none
def zOm {y:AV} {off:Nat} {cs:List AV} {v:AV} (h:zTj y off cs=some v):IW y off cs=v:=by
  unfold zTj at h;unfold IW
  cases y<;>first
    |(dsimp only at h⊢;rw[gL]at h;exact yAh h)
    | (dsimp only at h⊢
       split at h
       · rw[YE]at h;exact yAh h
       · cases h)
section
variable {P:Program} {TT:List TI} {K0:List Nat} {F:Fr K0} {m:Nat} {ops:Array Oper} {rest:List Oper} {Q:List FP->St->Prop} {tm:List (Nat×AV)} {h:List (Nat×xN)} {dr:Bool} {fs:List FP}
variable {ty:Nat} {pos:String} {after:Array Edge} {t:Nat}
def xR {T len:Nat} {ps:Array (Nat×Operand)} {st:St} (hk:yE P F m ops dr (⟨some t,.buildSlice T len ps,ty,pos,after,none⟩::rest) st fs Q):yE P F m ops dr (⟨some t,.buildSlice T len ps,ty,pos,after,none⟩::rest) st fs Q:=hk
def eP {T:Nat} {x y:Operand} {st:St} (hk:yE P F m ops dr (⟨some t,.makeSlice T x y,ty,pos,after,none⟩::rest) st fs Q):yE P F m ops dr (⟨some t,.makeSlice T x y,ty,pos,after,none⟩::rest) st fs Q:=hk
def cG {x:Operand} {st:St} (hk:yE P F m ops dr (⟨some t,.nilCheck x,ty,pos,after,none⟩::rest) st fs Q):yE P F m ops dr (⟨some t,.nilCheck x,ty,pos,after,none⟩::rest) st fs Q:=hk
def LU {x:Nat} {asq:Array Operand} {ts:Array Nat} {st:St} (hk:yE P F m ops dr (⟨some t,.call ⟨.value (.tmp x),asq,ts⟩,ty,pos,after,none⟩::rest) st fs Q):yE P F m ops dr (⟨some t,.call ⟨.value (.tmp x),asq,ts⟩,ty,pos,after,none⟩::rest) st fs Q:=hk
def bV (hP:uZ P TT) {op:Op} {xs:List AV} (he:zTi TT tm op=some xs) (hm:Nat.blt t m=true) (hk:yE P F m ops dr rest ⟨(t,.sl false xs)::tm,h⟩ (⟨true,[],[]⟩::fs) Q):
 yE P F m ops dr (⟨some t,op,ty,pos,after,none⟩::rest) ⟨tm,h⟩ fs Q:=zP (zAm hP he).wkS hm hk
def vA (hP:uZ P TT) {T e:Nat} {s x:Operand} {ti te:TI} {xv:AV} {ys:List AV} (hs:yM (zG tm) s= .s (.slice none 0 0)) (hx:yM (zG tm) x=xv) (hT:TT[T]? =some ti) (hd:ti.d= .slice e) (he:TT[e]? =some te)
  (hys:DY (zC h) xv=some ys) (hsz:∀y,ys[0]? =some y->y.cells.length=te.size) (hp:Nat.ble 1 te.size=true) (hb:Nat.ble te.bytes 65536=true) (hz:Nat.beq te.zero.length te.size=true) (hn:ys.length<=1073741824) (hm:Nat.blt t m=true)
  (hk:yE P F m ops dr rest ⟨(t,.sl false ys)::tm,h⟩ (⟨true,[],PH xv⟩::fs) Q):yE P F m ops dr (⟨some t,.call ⟨.builtin .append, #[s,x], #[T,T]⟩,ty,pos,after,none⟩::rest) ⟨tm,h⟩ fs Q:=
 zP (QM hP hs hx hT hd he hys hsz hp hb hz hn) hm hk
def kR (kn:Nat) (hP:uZ P TT) {T e:Nat} {s x:Operand} {ti te:TI} {xv:AV} {ys:List AV} (hs:yM (zG tm) s= .s (.slice none 0 0)) (hx:yM (zG tm) x=xv) (hT:TT[T]? =some ti) (hd:ti.d= .slice e) (he:TT[e]? =some te)
  (hys:DY (zC h) xv=some ys) (hsz:∀y,ys[0]? =some y->y.cells.length=te.size) (hp:Nat.ble 1 te.size=true) (hb:Nat.ble te.bytes 65536=true) (hz:Nat.beq te.zero.length te.size=true) (hn:ys.length<=1073741824) (hm:Nat.blt t m=true) (hnn:(zC h kn).isNone=true)
  {sz:Nat} (hse:te.size=sz) (hk:yE P F m ops dr rest ⟨(t,.ref kn 0 ys.length)::tm,(kn,.arr sz ys false)::h⟩ (⟨true,[kn,kn],PH xv⟩::fs) Q) (hz1:te.zero.all (·.oneCell')=true:=by rfl):yE P F m ops dr (⟨some t,.call ⟨.builtin .append, #[s,x], #[T,T]⟩,ty,pos,after,none⟩::rest) ⟨tm,h⟩ fs Q:=by
 subst hse;exact qE (nw:=[kn]) (YM hP kn hs hx hT hd he hys hsz hp hb hz hz1 hn) hm (zAl hnn) Z hk
def xF (hP:uZ P TT) {T e:Nat} {s x:Operand} {ti te:TI} {k sz:Nat} {sb:Bool} {xv:AV} {ys:List AV} (hs:yM (zG tm) s= .ref k 0 0) (hk:zC h k=some (.arr sz [] ⟨sb,false⟩)) (hx:yM (zG tm) x=xv) (hT:TT[T]? =some ti) (hd:ti.d= .slice e) (he:TT[e]? =some te)
  (hys:DY (zC h) xv=some ys) (hsz:∀y,ys[0]? =some y->y.cells.length=sz) (hss:Nat.beq sz te.size=true) (hb:Nat.ble te.bytes 65536=true) (hz:Nat.beq te.zero.length te.size=true) (hn:ys.length<=1073741824) (hm:Nat.blt t m=true)
  (hq:yE P F m ops dr rest ⟨(t,.ref k 0 ys.length)::tm,(k,.arr sz ys false)::h⟩ (⟨true,[k],k::PH xv⟩::fs) Q) (hz1:te.zero.all (·.oneCell')=true:=by rfl):yE P F m ops dr (⟨some t,.call ⟨.builtin .append, #[s,x], #[T,T]⟩,ty,pos,after,none⟩::rest) ⟨tm,h⟩ fs Q:=
 qE (nw:=[]) (uR (xs:=[]) false false hP hs hk hx hT hd he (λ_=>rfl) hys hsz hss hb hz hz1 DK (λ_=>rfl)) hm Z Z hq
def qR (hP:uZ P TT) {T e:Nat} {s x:Operand} {ti te:TI} {k sz:Nat} {sl:Fl} {xv:AV} {ys:List AV} (hs:yM (zG tm) s= .ref k 0 0) (hk:zC h k=some (.arr sz [] sl)) (hx:yM (zG tm) x=xv) (hT:TT[T]? =some ti) (hd:ti.d= .slice e) (he:TT[e]? =some te)
  (hys:TP true (zC h) xv=some ys) (hsz:∀y,ys[0]? =some y->y.cells.length=sz) (hss:Nat.beq sz te.size=true) (hb:Nat.ble te.bytes 65536=true) (hz:Nat.beq te.zero.length te.size=true) (hn:ys.length<=1073741824) (hm:Nat.blt t m=true)
  (hq:yE P F m ops dr rest ⟨(t,.ref k 0 ys.length)::tm,(k,.arr sz ys ⟨false,true⟩)::h⟩ (⟨true,[k],k::PH xv⟩::fs) Q) (hz1:te.zero.all (·.oneCell')=true:=by rfl):yE P F m ops dr (⟨some t,.call ⟨.builtin .append, #[s,x], #[T,T]⟩,ty,pos,after,none⟩::rest) ⟨tm,h⟩ fs Q:=
 qE (nw:=[]) (uR (xs:=[]) false true hP hs hk hx hT hd he (λh=>by cases h) hys hsz hss hb hz hz1 DK (λ_=>rfl)) hm Z Z hq
def cH (hP:uZ P TT) {T:Nat} {p x:Operand} {k i off sz:Nat} {xs:List AV} {y v y':AV} {ti:TI} {nest:Bool} (hp:yM (zG tm) p= .ptr k i off) (hx:yM (zG tm) x=v) (hk:zC h k=some (.arr sz xs ⟨false,nest⟩)) (hy:xs[i]? =some y) (hT:TT[T]? =some ti)
  (h1:v.ok=true) (h2:Nat.beq v.cells.length ti.size=true) (h3:Nat.ble (off+ti.size) y.cells.length=true) (h4:(nest||v.nokey)=true) (h5:Nat.ble 1 ti.size=true) (h6:v.cells.all (λv=>!v.isAgg)=true) (he:zTj y off v.cells=some y')
  (hq:yE P F m ops dr rest ⟨tm,(k,.arr sz (xs.set i y') ⟨false,nest⟩)::h⟩ (⟨true,[k],[k]⟩::fs) Q):yE P F m ops dr (⟨none,.store T p x,ty,pos,after,none⟩::rest) ⟨tm,h⟩ fs Q:=by
 have hs:=XY (st:=⟨tm,h⟩) hP hp hx hk hy hT h1 h2 h3 h4 h5 h6;rw[zOm he]at hs;exact x_s (nw:=[]) hs Z Z hq
def aO (hP:uZ P TT) {T:Nat} {p x:Operand} {k i sz:Nat} {xs ds cs:List AV} {ti:TI} {nest:Bool} (hp:yM (zG tm) p= .ptr k i 0) (hx:yM (zG tm) x= .agg cs) (hk:zC h k=some (.arr sz xs ⟨false,nest⟩)) (hy:xs[i]? =some (.agg ds)) (hT:TT[T]? =some ti)
  (h2:Nat.beq cs.length ti.size=true) (h3:Nat.beq ti.size ds.length=true) (h4:(nest||(AV.agg cs).nokey)=true) (h5:Nat.ble 1 ti.size=true) (h6:cs.all (λv=>!v.isAgg)=true)
  (hq:yE P F m ops dr rest ⟨tm,(k,.arr sz (xs.set i (.agg cs)) ⟨false,nest⟩)::h⟩ (⟨true,[k],[k]⟩::fs) Q):yE P F m ops dr (⟨none,.store T p x,ty,pos,after,none⟩::rest) ⟨tm,h⟩ fs Q:=by
 have e2:=zY2 h2;have e3:=zY2 h3;have hs:=XY (st:=⟨tm,h⟩) hP hp hx hk hy hT Z (by simpa [AV.cells]using h2) (yBw (by simp[AV.cells];omega)) h4 h5 h6
 have:IW (.agg ds) 0 (AV.agg cs).cells= .agg cs:=by
  unfold IW AV.cells;dsimp only
  congr 1
  apply zZf;intro j;rw[XF _ _ _ _ (by omega)];split
  ·rfl
  ·rw[zYx (by omega),zYx (by omega)]
 rw[this]at hs;exact x_s (nw:=[]) hs Z Z hq
theorem wN.nsplit {a:Act} {w:World} (H:wN F m ⟨tm,h⟩ a w) {t:Nat} {xs:List AV} (hv:zG tm t= .sl false xs):(∃cap,xs=[]/\wN F m ⟨(t,.s (.slice none 0 cap))::tm,h⟩ a w)∨wN F m ⟨(t,.sl true xs)::tm,h⟩ a w:=by
 obtain⟨⟨X,β,hX,HH,Ht,KK,hJ,hD⟩,nd,gs,hl⟩:=H
 have key:∀v,(∀i,v≠ .gh i)->yB w (xO X β) (zC h) β v (a.eval (.tmp t))->wN F m ⟨(t,v)::tm,h⟩ a w:=λv hg hv=>by
  refine⟨⟨X,β,hX,HH,λj=>?_,KK,λi hi=>?_,hD⟩,nd,gs,hl⟩
  ·rw[yP];split
   ·rename_i hj;subst hj;exact hv
   ·exact Ht j
  ·rw[yP]at hi;split at hi
   ·exact absurd hi (hg i)
   ·exact hJ i hi
 have h0:=Ht t;dsimp only at h0;rw[hv]at h0;generalize hc:a.eval (.tmp t)=c at*
 cases h0 with
 | fz _ _ hf=>
  cases hf with
  |nil b cap=>
   cases b with
   |none=>exact .inl ⟨cap,rfl,key _ (λ_ h=>by cases h) (.fz _ _ (.s _))⟩
   |some b=>exact .inr (key _ (λ_ h=>by cases h) (.fz _ _ (.nil1 b cap)))
  |sl _ _ b o sz cap f hx hL hcc hh=>exact .inr (key _ (λ_ h=>by cases h) (.fz _ _ (.sl true _ b o sz cap f hx hL hcc hh)))
def yX {c:Code} {Q:Exit->St->Prop} (t:Nat) {xs:List AV} (hv:zG tm t= .sl false xs) (h1:∀cap,xs=[]->uQ P F m c ⟨(t,.s (.slice none 0 cap))::tm,h⟩ Q) (h2:uQ P F m c ⟨(t,.sl true xs)::tm,h⟩ Q):uQ P F m c ⟨tm,h⟩ Q:=
 ⟨λa w H=>by
  rcases H.nsplit hv with⟨cap,hx,H1⟩|H2
  ·exact(h1 cap hx).run a w H1
  ·exact h2.run a w H2⟩
end
section
variable {P:Program} {K0:List Nat} {F:Fr K0} {m:Nat} {tm:List (Nat×AV)} {h:List (Nat×xN)}
def zAn {X:Nat->Prop} {h:yJ} {β:uW} {w:World} (H:jK X h β w) {K:Nat} (hK:h K=none) {sz:Nat} (hp:1<=sz):xK X w h β w (over [(K,.arr sz [] false)] h) (bD β K []):=
 xK.step H K _ _ (zX7 _) (λ_ _ _=>rfl) Z Z Z (λb n hm=>by simp at hm) (λ_ _ _=>rfl) (λe he=>by rw[hK]at he;cases he) (λE=>⟨hp,by simp,λh=>absurd Z h,λi y hy=>by simp at hy,
  λb n r hr=>by rw[zZ]at hr;simp at hr,λ_ _=>undef,λi y j v hy _=>by simp at hy,λi j hi _=>by simp at hi,λb n hm=>by rw[zZ]at hm;simp at hm⟩)
theorem wN.virtF {a:Act} {w:World} (H:wN F m ⟨tm,h⟩ a w) (t K sz:Nat) {cap:Nat} (hv:zG tm t= .s (.slice none 0 0)) (hK:(zC h K).isNone=true) (hp:Nat.ble 1 sz=true):wN F m ⟨(t,.ref K 0 0)::tm,(K,.arr sz [] false)::h⟩ a w:=by
 obtain⟨⟨X,β,hX,HH,Ht,KK,hJ,hD⟩,nd,gs,hl⟩:=H;have hk:zC h K=none:=by simpa using hK
 have G:=zAn HH hk (zYm hp);have nd':∀k,over [(K,.arr sz [] false)] (zC h) k≠some .dead:=fW Z nd
 have R:VD F m (zG ((t,.ref K 0 0)::tm)) (over [(K,.arr sz [] false)] (zC h)) a w:=by
  refine⟨⟨X,_,hX,G.hok,λj=>?_,KK.goes G nd' (G.lives HH nd'),λi hi=>?_,hD.goes HH G⟩,nd',gs,hl⟩
  ·rw[yP];split
   ·rename_i hj;subst hj;have:=Ht j;rw[hv]at this;rw[this.s_inv];exact .ref0 K 0 sz [] false none (kC _ _ _) (zX7 _)
   ·exact(Ht j).evo G.evo
  ·rw[yP]at hi;split at hi
   ·cases hi
   ·exact F.go G (hJ i hi)
 unfold wN;dsimp only;rw[show zC ((K,.arr sz [] false)::h)=over [(K,.arr sz [] false)] (zC h)from vG [(K,.arr sz [] false)] h];exact R
def uK {c:Code} {Q:Exit->St->Prop} (t K sz:Nat) (hv:zG tm t= .s (.slice none 0 0)) (hK:(zC h K).isNone=true) (hp:Nat.ble 1 sz=true) (hk:uQ P F m c ⟨(t,.ref K 0 0)::tm,(K,.arr sz [] false)::h⟩ Q):uQ P F m c ⟨tm,h⟩ Q:=
 ⟨λa w H=>hk.run a w (H.virtF (cap:=0) t K sz hv hK hp)⟩
end
structure ZE (X X':Nat->Prop) (W W':World):Prop where
 size:W.heap.size<=W'.heap.size
 fz:∀b,b<W.heap.size->¬X b->W'.heap[b]? =W.heap[b]? /\¬X' b
 sup:∀b,X b->X' b
 lt:∀b,X' b->b<W'.heap.size
 os:W'.os=W.os
 tape:W'.tape=W.tape
 output:W'.output=W.output
def YOK {K0:List Nat} (P:Program) (F:Fr K0) (l:Nat) (xs:List (List AV)):Prop:=
 ∀(i:Nat) (ys:List AV) (X O:Nat->Prop) (W:World) (cs:Array Value),xs[i]? =some ys->F.J i O X W->cs.size=ys.length->(∀(j:Nat) v,ys[j]? =some v->xE W (λb=>X b∨O b) v (cs.getD j undef))->
  YieldAt Fence.wide 0 P l cs W λe W'=>(e= .returned (.bool true)/\∃X',ZE X X' W W'/\F.J (i+1) O X' W')∨(e= .returned (.bool false)/\∃X',ZE X X' W W'/\F.J (xs.length+1+i) O X' W')
section
variable {X X':Nat->Prop} {W W':World} {h:yJ} {β:uW}
theorem ZE.evo (H:jK X h β W) (q:ZE X X' W W'):GM W (xO X β) h β W' (xO X' β) h β:=
 ⟨q.size,λb hb hd=>⟨(q.fz b hb λhx=>hd (.inl hx)).1,λh'=>h'.elim (q.fz b hb λhx=>hd (.inl hx)).2 λho=>hd (.inr ho)⟩,λk b n hm=>by
  unfold wG World.shape?
  rw[(q.fz b (H.lt b (.inr ⟨k,n,hm⟩)) (H.free k b n hm)).1],kU h β⟩
theorem ZE.hok (H:jK X h β W) (q:ZE X X' W W'):jK X' h β W':=
 ⟨λk e he=>(H.ent k e he).evo (q.evo H) Z λb n hm=>(q.fz b (H.lt b (.inr ⟨k,n,hm⟩)) (H.free k b n hm)).1,H.off,H.disj,λk b n hm=>(q.fz b (H.lt b (.inr ⟨k,n,hm⟩)) (H.free k b n hm)).2,
  λb hd=>hd.elim (q.lt b) λho=>zZe (H.lt b (.inr ho)) q.size⟩
end
section
variable {P:Program} {K0:List Nat} {F:Fr K0} {m:Nat} {ops:Array Oper} {rest:List Oper} {tm:List (Nat×AV)} {h:List (Nat×xN)}
theorem VD.quiet {X X':Nat->Prop} {β:uW} {hh:yJ} {t:Nat->AV} {a:Act} {W W':World} {j:Nat} (hit:F.it=true) (hV:∀b,F.X b->F.V b) (hX:XOK F X) (H:jK X hh β W) (Ht:∀s,yB W (xO X β) hh β (t s) (a.eval (.tmp s))) (KK:gZ F hh β W) (hD:DOK X F a.defers W) (nd:∀k,hh k≠some .dead) (gs:m<=GS) (hl:a.tmps.size=m)
  (q:ZE X X' W W') (hj:F.J j (Own β) X' W') (d:Nat) (hd:d<m) (b:Bool):VD F m (λs=>if s=GS then .gh j else if s=d then .s (.bool b)else t s) hh (a.put (some d) (.bool b)) W':=by
 have E:=q.evo H;refine⟨⟨X',β,⟨λc hc=>q.sup c (hX.1 c hc),λc hc=>?_⟩,q.hok H,λs=>?_,?_,λi hi=>?_,?_⟩,nd,gs,by simp[Act.put,hl]⟩
 ·by_cases hb:c<W.heap.size
  ·by_cases hxc:X c
   ·exact hX.2 c hxc
   ·exact absurd hc (q.fz c hb hxc).2
  ·exact .inr (zY9 KK.size (Nat.le_of_not_lt hb))
 ·split
  ·exact .fz _ _ (.gh _ _)
  ·split
   ·rename_i hs;subst hs;have:s<a.tmps.size:=by rw[hl];exact hd
    have e:(a.put (some s) (.bool b)).eval (.tmp s)= .bool b:=by simp[Act.put,Act.eval,this]
    rw[e];exact .fz _ _ (.s _)
   ·rename_i hs;rw[Act.eval_put (λd' hd' e=>hs (by cases hd';injection e with e))];exact(Ht s).evo E
 ·exact⟨KK.knd,zY9 KK.size q.size,λc hc hi hn=>by
   have h1:¬X c:=λhx=>(hX.2 c hx).elim (λh=>hi (hV c h)) λh=>by omega
   rw[(q.fz c (zZe hc KK.size) h1).1]
   exact KK.keep c hc hi hn,KK.own,KK.pas,λk c n hm=>by
   obtain⟨n',_,hm'⟩:=KK.pas k c n hm
   rw[E.bs k c n' hm',KK.bs k c n hm],q.os.trans KK.os,q.tape.trans KK.tape,q.output.trans KK.output⟩
 ·simp only[zX3 Z]at hi;cases hi;exact hj
 ·obtain⟨bs,h1,h0,h2,h3⟩:=hD;have:=h0 hit;subst this;exact⟨[],h1,λ_=>rfl,h2,λb hb=>by simp at hb⟩
def zEp {xs:List (List AV)} {ys:List AV} {l i y t ty:Nat} {asq:Array Operand} {ats:Array Nat} {pos:String} {after:Array Edge} {Q:St->Prop} (hit:F.it=true/\∀b,F.X b->F.V b) (hY:YOK P F l xs) (hy:zG tm y= .s (.func (.yield l) #[] #[])) (hg:zG tm GS= .gh i) (hxs:xs[i]? =some ys)
  (hvs:asq.toList.map (yM (zG tm))=ys) (hnk:wF ys=true) (hm:Nat.blt t m=true)
  (h1:GL P F m ops rest ⟨(GS,.gh (i+1))::(t,.s (.bool true))::tm,h⟩ Q) (h2:GL P F m ops rest ⟨(GS,.gh (xs.length+1+i))::(t,.s (.bool false))::tm,h⟩ Q):
  GL P F m ops (⟨some t,.call ⟨.value (.tmp y),asq,ats⟩,ty,pos,after,none⟩::rest) ⟨tm,h⟩ Q:=λa w H=>by
 obtain⟨⟨X,β,hX,HH,Ht,KK,hJ,hD⟩,nd,gs,hl⟩:=H;have hj:=hJ i hg
 have hyv:a.eval (.tmp y)= .func (.yield l) #[] #[]:=by
  have:=Ht y;dsimp only at this;rw[hy]at this;exact this.s_inv
 have hlen:asq.toList.length=ys.length:=by rw[<-hvs];simp
 obtain⟨fn,tmps,assign,body,hrun,hround⟩:=hY i ys X (Own β) w (asq.map a.eval) hxs hj (by simpa using hlen) (λj v hv=>by
  rw[<-hvs,zX8,zYf]at hv;obtain⟨x,hx,rfl⟩:=hv;have hx':asq[j]? =some x:=by simpa using hx
  have e:(asq.map a.eval).getD j undef=a.eval x:=by simp[zY7,hx']
  rw[e];have hv2:(ys[j]?)=some (yM (zG tm) x):=by rw[<-hvs];simp[hx]
  exact(PE Ht x).toF (jL hnk hv2))
 refine wpListIn_plain Z λK hK=>⟨λ_ _=>trivial,?_⟩
 have he:((⟨some t,.call ⟨.value (.tmp y),asq,ats⟩,ty,pos,after,none⟩:Oper).semAt (DB F.ro).round a.eval).run P w= .ok (.round l fn tmps assign body) w:=by
  rw[Oper.semAt_eq _ _ _ (λc hc=>by cases hc)];rw[<-hrun];simp[execOp,resolve,hyv,Deferred.ofValue,invoke]
 rw[he];refine⟨λhx=>by simp[DB,Fence.wide]at hx,?_⟩;refine RoundIn.mono (F:=Fence.wide) hround ?_;rintro e W' (⟨rfl,X',q,hj'⟩|⟨rfl,X',q,hj'⟩)
 ·refine hK _ _ (h1 _ _ ?_);have R:=VD.quiet hit.1 hit.2 hX HH Ht KK hD nd gs hl q hj' t (zYm hm) true;unfold wN;refine R.congr (λs=>?_) (λ_=>rfl);rw[yP,yP]
 ·refine hK _ _ (h2 _ _ ?_);have R:=VD.quiet hit.1 hit.2 hX HH Ht KK hD nd gs hl q hj' t (zYm hm) false;unfold wN;refine R.congr (λs=>?_) (λ_=>rfl);rw[yP,yP]
def UU {xs:List (List AV)} {ys:List AV} {l i y t ty:Nat} {asq:Array Operand} {ats:Array Nat} {pos:String} {after:Array Edge} {fs:List FP} {Q:List FP->St->Prop} (hit:F.it=true/\∀b,F.X b->F.V b) (hY:YOK P F l xs) (hy:zG tm y= .s (.func (.yield l) #[] #[])) (hg:zG tm GS= .gh i) (hxs:xs[i]? =some ys)
 (hvs:asq.toList.map (yM (zG tm))=ys) (hnk:wF ys=true) (hm:Nat.blt t m=true)
 (h1:yE P F m ops false rest ⟨(GS,.gh (i+1))::(t,.s (.bool true))::tm,h⟩ fs Q) (h2:yE P F m ops false rest ⟨(GS,.gh (xs.length+1+i))::(t,.s (.bool false))::tm,h⟩ fs Q):
 yE P F m ops false (⟨some t,.call ⟨.value (.tmp y),asq,ats⟩,ty,pos,after,none⟩::rest) ⟨tm,h⟩ fs Q:=⟨zEp hit hY hy hg hxs hvs hnk hm h1.run h2.run⟩
end
structure aP (P:Program) (f:Nat) (caps:List AV) (h0:List (Nat×xN)) (xs:List (List AV)):Prop where
 able:bY P f
 sim:∀(l:Nat) (cv:Array Value) (F:Fr (yS h0)),(F.it=true/\∀b,F.X b->F.V b)->F.ro=none->F.h0=zC h0->cv.size=caps.length->jK F.X (zC h0) F.β0 F.w0->(∀(i:Nat) v,caps[i]? =some v->yB F.w0 (xO F.X F.β0) (zC h0) F.β0 v (cv.getD i undef))->
  F.J 0 (Own F.β0) F.X F.w0->YOK P F l xs->Calls P f (#[.func (.yield l) #[] #[]]++cv) F.w0 λe w'=>(∃v,e= .returned v)/\∃i O X,F.J i O X w'/\(i=xs.length∨xs.length<i)
def zTk (n:Nat) (e:Exit) (st:St):Prop:=(e= .normal∨e= .ret)/\∃i,zG st.tm GS= .gh i/\(i=n∨n<i)
def gN {n i:Nat} {st:St} (h:zG st.tm GS= .gh i) (hi:i=n∨n<i):zTk n .ret st:=⟨.inr Z,i,h,hi⟩
def bB {n i:Nat} {st:St} (h:zG st.tm GS= .gh i) (hi:i=n∨n<i):zTk n .normal st:=⟨.inl Z,i,h,hi⟩
theorem cI {P:Program} {f:Nat} {fn:Func} {body:Code} {caps:List AV} {h0:List (Nat×xN)} {xs:List (List AV)} (hf:P.funcs[f]? =some fn) (hb:fn.body=some body) (able:bY P f) (hlen:Nat.ble (caps.length+1) fn.ntmps=true) (hres:fn.results= #[])
  (hnd:uG h0=true) (h:∀(F:Fr (yS h0)) (l:Nat),F.ro=none->(F.it=true/\∀b,F.X b->F.V b)->YOK P F l xs->uQ P F fn.ntmps body ⟨(GS,.gh 0)::UW 0 (.s (.func (.yield l) #[] #[])::caps),h0⟩ (zTk xs.length)) (hgs:Nat.ble fn.ntmps GS=true:=by rfl):aP P f caps h0 xs:=by
 refine⟨able,λl cv F hit hro hh0 hcl H hcaps hj hY=>(callsIn_wide (n:=0)).1 ?_⟩;have hlen:=zYm hlen;have hw:∀(c:Code) Q a w,c.wpIn (DB F.ro) 0 P Q a w->c.wpIn Fence.wide 0 P Q a w:=λc Q a w h=>by rw[hro]at h;exact h
 refine callsIn_of_wp_marks (F:=Fence.wide) (n:=0) hf hb trivial (hw _ _ _ _ (Code.wpIn_mono (λe a' w1 q=>?_) ((h F l hro hit hY).run _ F.w0 ⟨⟨F.X,F.β0,⟨λ_ h=>h,λ_ h=> .inl h⟩,H,λt=>?_,⟨λk e he=>?_,zX7 _,λ_ _ _ _=>rfl,λk b n hm=> .inl ⟨k,n,hm⟩,λk b n hm=>⟨n,zX7 _,hm⟩,λ_ _ _ _=>rfl,rfl,rfl,rfl⟩,λi hi=>?_,[],rfl,λ_=>rfl,yDf,λb hb=>by simp at hb⟩,λk=>qI hnd,zYm hgs,?_⟩))) Z
 ·obtain⟨st,⟨he,i,hi,hn⟩,⟨⟨X2,β2,_,_,_,_,hJ2,bs,hds,hbs,_⟩,_,_,_⟩⟩:=q;have hb0:=hbs hit.1;subst hb0
  have goal:LeavesInM Fence.wide 0 P fn a'.tmps (λe w'=>(∃v,e= .returned v)/\∃i O X,F.J i O X w'/\(i=xs.length∨xs.length<i)) a'.defers .returning w1:=by
   rw[hds];refine⟨.tuple #[],by simp[results,hres],⟨_,rfl⟩,i,_,_,hJ2 i hi,hn⟩
  rcases he with rfl|rfl
  ·exact goal
  ·exact goal
 ·dsimp only;rw[yP];split
  ·exact .fz _ _ (.gh _ _)
  ·rw [VG,zX3 (zYl _),yCe]
   cases t with
   | zero=>
    have e:Act.eval {tmps:= #[Value.func (.yield l) #[] #[]]++cv++Array.replicate (fn.ntmps-(#[Value.func (.yield l) #[] #[]]++cv).size) undef,defers:=[]} (.tmp 0)= .func (.yield l) #[] #[]:=by
     simp[Act.eval,zY7,Array.getElem?_append]
    rw[e];exact .fz _ _ (.s _)
   | succ t=>
    rw[List.getD_cons_succ];by_cases ht:t<caps.length
    ·have h2:caps[t]? =some (caps.getD t .bot):=by simp[List.getD,ht]
     have e:Act.eval {tmps:= #[Value.func (.yield l) #[] #[]]++cv++Array.replicate (fn.ntmps-(#[Value.func (.yield l) #[] #[]]++cv).size) undef,defers:=[]} (.tmp (t+1))=cv.getD t undef:=by
      simp only[Act.eval,zY7];rw[zZ9 xX,yB3 zW];simp
     rw[e];exact hcaps t _ h2
    ·have:caps.getD t .bot= .bot:=by simp[List.getD,zYx (by omega:caps.length<=t)]
     rw[this];exact .fz _ _ (.bot _)
 ·rw[hh0]at he
  cases e with
  |dead=>exact absurd he (qI hnd)
  |box cs=>exact⟨cs,he⟩
  |obj cs=>exact⟨cs,he⟩
  |arr sz xs sl=>exact⟨xs,sl,he,zX7 _⟩
 ·dsimp only at hi;rw[yP,zX3 Z]at hi;cases hi;exact hj
 ·simp;omega
def βr (K:List Nat) (β:uW):uW:=λk=>if k∈K then β k else []
def XV {K:List Nat} {β:uW} {k:Nat} (h:k∈K):βr K β k=β k:=by simp[βr,h]
def kF {K:List Nat} {β:uW} {k b n:Nat} (h:(b,n)∈βr K β k):k∈K/\(b,n)∈β k:=by
 unfold βr at h;split at h
 ·exact⟨‹_›,h⟩
 ·simp at h
theorem zXo {X Xc:Nat->Prop} {h:yJ} {β:uW} {w:World} {h0:List (Nat×xN)} (HH:jK X h β w) (hK:∀k,k∈yS h0->h k=zC h0 k) (hclosed:∀k e,zC h0 k=some e->clE (yS h0) e=true)
  (hXc:∀b,Xc b->X b∨∃k n,¬k∈yS h0/\(b,n)∈β k):
  jK Xc (zC h0) (βr (yS h0) β) w/\∀v c,yB w (xO X β) h β v c->(∀k,k∈v.refs->k∈yS h0)->yB w (xO Xc (βr (yS h0) β)) (zC h0) (βr (yS h0) β) v c:=by
 have hβc:∀k,k∈yS h0->βr (yS h0) β k=β k:=λk hk=>XV hk
 have hDc:∀b,xO Xc (βr (yS h0) β) b->xO X β b:=λb hd=>by
  rcases hd with hx|⟨k,n,hm⟩
  ·exact(hXc b hx).imp id λ⟨k,n,_,hm⟩=>⟨k,n,hm⟩
  ·exact .inr ⟨k,n,(kF hm).2⟩
 have hclv:∀v c,yB w (xO X β) h β v c->(∀k,k∈v.refs->k∈yS h0)->yB w (xO Xc (βr (yS h0) β)) (zC h0) (βr (yS h0) β) v c:=by
  intro v c hv;have ef:∀{v c},xE w (xO X β) v c->xE w (xO Xc (βr (yS h0) β)) v c:=λhf=>hf.evo (zX7 _) λb _ hd=>⟨rfl,λh'=>hd (hDc b h')⟩
  induction hv with
  |fz v c hf=>exact λ_=> .fz _ _ (ef hf)
  |agg cs c hl h1 _ ih=>exact λhr=> .agg cs c hl h1 λi v hv=>ih i v hv λk hk=>hr k (by simpa [AV.refs]using wU hv hk)
  |fn f caps c hl _ ih=>exact λhr=> .fn f caps c hl λi v hv=>ih i v hv λk hk=>hr k (by simpa [AV.refs]using wU hv hk)
  |tup vs c hl _ ih=>exact λhr=> .tup vs c hl λi v hv=>ih i v hv λk hk=>hr k (by simpa [AV.refs]using wU hv hk)
  |dref k off len c hk h1=>exact λhr=> .dref _ _ _ _ ((hK k (hr k (by simp[AV.refs])))▸hk) h1
  |dptr k i off c hk h1=>exact λhr=> .dptr _ _ _ _ ((hK k (hr k (by simp[AV.refs])))▸hk) h1
  |ref k off len sz xs st b n cap hk hb hn hc hs=>exact λhr=> .ref k off len sz xs st b n cap ((hK k (hr k (by simp[AV.refs])))▸hk) (by rw[hβc k (hr k (by simp[AV.refs]))];exact hb) hn hc hs
  |ref0 k off sz xs st a hk hn=>exact λhr=> .ref0 k off sz xs st a ((hK k (hr k (by simp[AV.refs])))▸hk) hn
  |pbox k off cs b n hk hb=>exact λhr=> .pbox k off cs b n ((hK k (hr k (by simp[AV.refs])))▸hk) (by rw[hβc k (hr k (by simp[AV.refs]))];exact hb)
  |parr k i off sz xs st b n hk hb hi ho=>exact λhr=> .parr k i off sz xs st b n ((hK k (hr k (by simp[AV.refs])))▸hk) (by rw[hβc k (hr k (by simp[AV.refs]))];exact hb) hi ho
 refine⟨⟨λk e he=>?_,λk he=>?_,λk k' b n n' q1 q2=>HH.disj _ _ _ _ _ (kF q1).2 (kF q2).2,λk b n hm hx=>?_,λb hd=>HH.lt b (hDc b hd)⟩,hclv⟩
 ·have hk:=uL he
  refine(HH.ent k e ((hK k hk).trans he)).lift (hβc k hk) (λcs hcs i v c hi hv=>hclv v c hv λj hj=>by
   have:=hclosed k e he;rw[hcs]at this
   simpa using zYi.1 this j (wU hi hj)) λsz xs fl hxs i x j v c hi hj=>⟨λhf=>hf.evo (zX7 _) λb _ hd=>⟨rfl,λh'=>hd (hDc b h')⟩,λhn hv=>hclv v c hv λq hq=>by
   have:=hclosed k e he;rw[hxs]at this;simp only[clE,hn,zZo]at this
   simpa using zYi.1 this q (wU hi (VF hj hq))⟩
 ·unfold βr;rw[zX2];intro hk;obtain⟨e,hk⟩:=bZ hk;rw[he]at hk;cases hk
 ·obtain⟨hk,hm⟩:=kF hm
  rcases hXc b hx with hx|⟨k',n',hk',hm'⟩
  ·exact HH.free k b n hm hx
  ·exact hk' (HH.disj k k' b n n' hm hm'▸hk)
def zAo (h:yJ):Prop:=∀k sz xs fl,h k=some (.arr sz xs fl)->fl.nest=false
def nnH:List (Nat×xN)->Bool
 | []=>true
 |(_,e)::r=>match e with
  | .arr _ _ fl=>!fl.nest&&nnH r
  |_=>nnH r
theorem zJm:∀{h:List (Nat×xN)},nnH h=true->zAo (zC h)
 | [],_,k,sz,xs,fl,he=>by simp[zC]at he
 | (j,e)::r,hn,k,sz,xs,fl,he=>by
  rw[xG]at he;split at he
  ·cases he;simp[nnH]at hn;exact hn.1
  ·refine zJm (h:=r) ?_ k sz xs fl he
   cases e with
   |arr _ _ _=>simp[nnH]at hn;exact hn.2
   |_=>exact hn
def zOn {h:yJ} (nn:zAo h) (K:List Nat):∀v:AV,qS K h v=wQ K h v:=by
 intro v;refine AV.rec (motive_1:=λv=>qS K h v=wQ K h v) (motive_2:=λcs=>wT K h cs=qN K h cs) ?_ ?_ ?_ ?_ ?_ ?_ ?_ ?_ ?_ ?_ ?_ ?_ ?_ ?_ v
 ·rfl
 ·exact λ_=>rfl
 ·exact λ_=>rfl
 ·exact λcs ih=>by simp only[qS,wQ];rw[ih]
 ·exact λ_ _ _=>rfl
 ·exact λ_ _ _=>rfl
 ·intro k off len;simp only[qS,wQ]
  cases K.contains k with
  |true=>rfl
  |false=>
   simp only[zZ6];split
   ·rename_i xs fl he;rw[nn _ _ _ _ he];rfl
   ·rfl
 ·intro k i off;rfl
 ·exact λ_ _ _ _=>rfl
 ·exact λf cs ih=>by simp only[qS,wQ];rw[ih]
 ·exact λcs ih=>by simp only[qS,wQ];rw[ih]
 ·exact λ_ _=>rfl
 ·rfl
 ·exact λv r h1 h2=>by simp only[wT,qN];rw[h1,h2]
theorem jK.restrX {X X':Nat->Prop} {h:yJ} {β:uW} {w:World} (H:jK X h β w) (K Kd:List Nat) (hx:∀b,X' b->X b∨∃k n,k∈Kd/\(b,n)∈β k) (hdis:∀k,k∈Kd->¬k∈K) (nn:zAo h)
  (hent:∀k cs,k∈K->h k=some (.box cs)->∀j,j∈jO cs->¬j∈Kd):
  jK X' (zC (vD K h)) (βr K β) w/\∀v c,(∀j,j∈v.refs->¬j∈Kd)->yB w (xO X β) h β v c->yB w (xO X' (βr K β)) (zC (vD K h)) (βr K β) (wQ K h v) c:=by
 have hsub:∀b,xO X' (βr K β) b->xO X β b:=λb hd=>by
  rcases hd with hb|⟨k,n,hm⟩
  ·exact(hx b hb).imp id λ⟨k,n,_,hm⟩=>⟨k,n,hm⟩
  ·exact .inr ⟨k,n,(kF hm).2⟩
 have hv:∀v c,(∀j,j∈v.refs->¬j∈Kd)->yB w (xO X β) h β v c->yB w (xO X' (βr K β)) (zC (vD K h)) (βr K β) (wQ K h v) c:=λv c hr hv=>by
  rw[<-zOn nn];refine yB.fz0 H (K:=K) (λk hk e he=>?_) (λk hk=>XV hk) (λb _ hd h'=>hd (hsub b h')) hv λk hk0=>?_
  ·rw[xZ,zX3 hk,he]
   cases e with
   |box cs=>exact⟨_,rfl⟩
   |obj cs=>exact⟨_,rfl⟩
   |arr sz xs fl=>exact⟨xs,fl,by simp only[Option.map_some,kI,nn _ _ _ _ he,zZ6],rfl⟩
   |dead=>rfl
  ·by_cases hk:k∈K
   ·exact .inl hk
   ·refine .inr λb n hm=>?_
    rintro(hb|⟨k',n',hm'⟩)
    ·rcases hx b hb with hb|⟨k',n',hk',hm'⟩
     ·exact H.free k b n hm hb
     ·exact hr k hk0 (H.disj k k' b n n' hm hm'▸hk')
    ·obtain⟨hk',hm'⟩:=kF hm';exact hk (H.disj k k' b n n' hm hm'▸hk')
 have ef:∀{v c},xE w (xO X β) v c->xE w (xO X' (βr K β)) v c:=λhf=>hf.evo (zX7 _) λb _ hd=>⟨rfl,λh'=>hd (hsub b h')⟩
 refine⟨⟨λk e he=>?_,λk he=>?_,λk k' b n n' h1 h2=>H.disj _ _ _ _ _ (kF h1).2 (kF h2).2,λk b n hm hb=>?_,λb hd=>H.lt b (hsub b hd)⟩,hv⟩
 ·rw[xZ]at he;split at he
  ·rename_i hk;rw[zYf]at he;obtain⟨e0,he0,rfl⟩:=he;have:=H.ent k e0 he0
   cases e0 with
   |dead=>show βr K β k=[];rw[XV hk];exact this
   |box cs=>
    obtain⟨b,c,el,h1,h2,h3,h4,h5⟩:=this;refine⟨b,c,el,by rw[XV hk];exact h1,h2,by rw[uH];exact h3,h4,λi v hi=>?_⟩;rw[aQ,zYf]at hi;obtain⟨u,hu,rfl⟩:=hi;exact hv u _ (λj hj=>hent k cs hk he0 j (wU hu hj)) (h5 i u hu)
   |obj cs=>
    exact⟨by rw[XV hk];exact this.1,this.2⟩
   |arr sz xs st=>
    obtain⟨g1,g2,g3,g4,g5,f,g6,g7,g8⟩:=this;have hn:=nn _ _ _ _ he0;rw[show kI K h (.arr sz xs st)= .arr sz xs st by simp only[kI,hn,zZ6]];exact⟨g1,g2,by rw[XV hk];exact g3,g4,by rw[XV hk];exact g5,f,.ofF λi x j v hx hy=>ef (g6.toF hn i x j v hx hy),g7,by rw[XV hk];exact g8⟩
  ·cases he
 ·unfold βr;split
  ·rename_i hk;rw[xZ,zX3 hk]at he
   cases hk':h k with
   |none=>exact H.off k hk'
   |some e=>simp[hk']at he
  ·rfl
 ·obtain⟨hk,hm⟩:=kF hm
  rcases hx b hb with hb|⟨k',n',hk',hm'⟩
  ·exact H.free k b n hm hb
  ·exact hdis k' hk' (H.disj k k' b n n' hm hm'▸hk)
def zJn (K:List Nat) (h h':yJ):∀v:AV,wQ K h' (wQ K h v)=wQ K h v:=by
 intro v;refine AV.rec (motive_1:=λv=>wQ K h' (wQ K h v)=wQ K h v) (motive_2:=λcs=>qN K h' (qN K h cs)=qN K h cs) ?_ ?_ ?_ ?_ ?_ ?_ ?_ ?_ ?_ ?_ ?_ ?_ ?_ ?_ v
 ·rfl
 ·exact λ_=>rfl
 ·exact λ_=>rfl
 ·exact λcs ih=>by simp only[wQ];rw[ih]
 ·exact λ_ _ _=>rfl
 ·exact λ_ _ _=>rfl
 ·intro k off len;simp only[wQ]
  cases hc:K.contains k with
  |true=>simp only[zZo,wQ,hc]
  | false=>
   simp only[zZ6]
   rcases h k with _|(_|⟨_,xs,fl⟩|_|_)
   ·rfl
   ·rfl
   ·dsimp only
    cases fl.nest with
    |false=>rfl
    |true=>
     simp only[zZo]
     cases wF (wT K h xs)<;>rfl
   ·rfl
   ·rfl
 ·intro k i off;simp only[wQ]
  cases hc:K.contains k with
  |true=>simp only[zZo,wQ,hc]
  |false=>rfl
 ·exact λ_ _ _ _=>rfl
 ·exact λf cs ih=>by simp only[wQ];rw[ih]
 ·exact λcs ih=>by simp only[wQ];rw[ih]
 ·exact λ_ _=>rfl
 ·rfl
 ·exact λv r h1 h2=>by simp only[qN];rw[h1,h2]
section
variable {K0:List Nat} {F:Fr K0} {h:yJ} {β:uW} {w w':World} {X:Nat->Prop}
theorem gZ.toGoes (hV:∀b,¬F.V b) (H0:jK F.X F.h0 F.β0 F.w0) (H:jK X h β w) (K:gZ F h β w) (nd:∀k,F.h0 k≠some .dead):xK X F.w0 F.h0 F.β0 w h β where
 size:=K.size
 keep b hb hn:=K.keep b hb (hV b) hn
 own:=K.own
 bs:=K.bs
 key k e he:=by
  refine .inr ?_;have h1:=K.knd k e he
  cases e with
  |dead=>exact absurd he (nd k)
  |box cs0=>
   obtain⟨cs',h2⟩:=h1;refine⟨⟨_,h2⟩,λb n hm=>?_⟩;obtain⟨n',hn',hm'⟩:=K.pas k b n hm;obtain⟨b2,_,_,e2,_⟩:=H.ent k _ h2;obtain⟨b1,_,_,e1,_⟩:=H0.ent k _ he;rw[e1]at hm;rw[e2]at hm'⊢;simp at hm hm'⊢;exact⟨hm'.1,hm.2⟩
  |obj cs=>
   obtain⟨cs',h2⟩:=h1;refine⟨⟨_,h2⟩,λb n hm=>?_⟩;obtain⟨n',hn',hm'⟩:=K.pas k b n hm;have e2:=(H.ent k _ h2).1;have e1:=(H0.ent k _ he).1;rw[e1]at hm;rw[e2]at hm'⊢;simp at hm hm'⊢;exact⟨hm'.1,hm.2⟩
  |arr sz xs sl=>
   obtain⟨xs',sl',h2,h3⟩:=h1;exact⟨⟨xs',sl',h2,h3⟩,λb n hm=>K.pas k b n hm⟩
 hok:=H
 os:=K.os
 tape:=K.tape
 output:=K.output
theorem gZ.turn (K:gZ F h β w) (H:jK X h β w) (hs:w'.heap.size=w.heap.size) (hk:∀b,b<w.heap.size->¬X b->w'.heap[b]? =w.heap[b]?) (hl:∀b,b<F.w0.heap.size->w'.heap[b]? =w.heap[b]?) (o1:w'.os=w.os) (o2:w'.tape=w.tape) (o3:w'.output=w.output):gZ F h β w':=
 ⟨K.knd,by rw[hs];exact K.size,λb hb hi hn=>by rw[hl b hb];exact K.keep b hb hi hn,K.own,K.pas,λk b n hm=>by
  rw[<-K.bs k b n hm];obtain⟨n',_,hm'⟩:=K.pas k b n hm;unfold wG World.shape?
  rw[hk b (H.lt b (.inr ⟨k,n',hm'⟩)) (H.free k b n' hm')],o1.trans K.os,o2.trans K.tape,o3.trans K.output⟩
theorem gZ.restr (K:gZ F h β w) (Ks:List Nat) (hK:∀k,k∈K0->k∈Ks):gZ F (zC (vD Ks h)) (βr Ks β) w:=by
 refine⟨λk e he=>?_,K.size,K.keep,λk b n hm=>K.own k b n (kF hm).2,λk b n hm=>?_,K.bs,K.os,K.tape,K.output⟩
 ·have hk:=hK k (F.hh k e he);have h1:=K.knd k e he;have hr:∀e',h k=some e'->zC (vD Ks h) k=some (kI Ks h e'):=λe' h2=>by rw[xZ,zX3 hk,h2];rfl
  cases e with
  |dead=>exact h1
  |box cs=>obtain⟨cs',h2⟩:=h1;exact⟨_,hr _ h2⟩
  |obj cs=>obtain⟨cs',h2⟩:=h1;exact⟨_,hr _ h2⟩
  |arr sz xs sl=>obtain⟨xs',sl',h2,h3⟩:=h1;obtain⟨xs2,fl2,h4,h5⟩:=gT Ks h sz xs' sl';exact⟨xs2,fl2,(hr _ h2).trans (by rw[h4]),by rw[h5];exact h3⟩
 ·rw[XV (hK k (F.hK k b n hm))];exact K.pas k b n hm
end
def zCz (ps:List Nat) (ys:List AV) (T:List (Nat×AV)):List (Nat×AV):=(ps.zip ys).foldl (λtm p=>p::tm) T
theorem LV {w:World} {D:Nat->Prop} {h:yJ} {β:uW}:∀(ps:List Nat) (ys:List AV) (cs:List Value) (T:List (Nat×AV)) (tmps:Array Value),ys.length=cs.length->(∀(j:Nat) v c,ys[j]? =some v->cs[j]? =some c->yB w D h β v c)->(∀p,p∈ps->p<tmps.size)->
  (∀t,yB w D h β (zG T t) (tmps.getD t undef))->∀t,yB w D h β (zG (zCz ps ys T) t) (((ps.zip cs).foldl (λtmps (p:Nat×Value)=>tmps.setIfInBounds p.1 p.2) tmps).getD t undef)
 | [],ys,cs,T,tmps,_,_,_,h,t=>h t
 |p::ps,[],cs,T,tmps,hl,_,_,h,t=>by
  obtain rfl:cs=[]:=zYz hl.symm;exact h t
 |p::ps,y::ys,[],T,tmps,hl,_,_,h,t=>by simp at hl
 | p::ps,y::ys,c::cs,T,tmps,hl,hr,hp,h,t=>by
  have hps:=hp p zW;refine LV ps ys cs ((p,y)::T) (tmps.setIfInBounds p c) DL (λj v c' h1 h2=>hr (j+1) v c' DM KD) (λq hq=>by simpa using hp q (by simp[hq])) (λs=>?_) t;rw[yP];by_cases hs:s=p
  ·subst hs;rw[zX3 Z];have e:(tmps.setIfInBounds s c).getD s undef=c:=by simp[zY7,hps]
   rw[e];exact hr 0 y c Z Z
  ·rw[zX2 hs];have e:(tmps.setIfInBounds p c).getD s undef=tmps.getD s undef:=by simp[zY7,Array.getElem?_setIfInBounds_ne (Ne.symm hs)]
   rw[e];exact h s
theorem gZ.evo {K0:List Nat} {F:Fr K0} {h:yJ} {β:uW} {w:World} {X:Nat->Prop} (hX:XOK F X) (G:xK X F.w0 F.h0 F.β0 w h β):GM F.w0 (xO F.X F.β0) F.h0 F.β0 w (xO X β) h β:=
 ⟨G.size,λb hb hd=>⟨G.keep b hb λk n hm=>hd (.inr ⟨k,n,hm⟩),λh'=>by
  rcases h' with hx|⟨k,n,hm⟩
  ·rcases hX.2 b hx with hx|hx
   ·exact hd (.inl hx)
   ·omega
  ·rcases G.own k b n hm with⟨k',n',h2⟩|h2
   ·exact hd (.inr ⟨k',n',h2⟩)
   ·omega⟩,G.bs,G.key⟩
structure RF {K0:List Nat} (F:Fr K0) (T:List (Nat×AV)) (a:Act) (l:Nat) (hc:List (Nat×xN)) (rec:Loop) (O X:Nat->Prop) (W:World):Prop where
 ex:∃Xc βc,XOK F Xc/\jK Xc (zC hc) βc W/\(∀t,yB W (xO Xc βc) (zC hc) βc (zG T t) (a.eval (.tmp t)))/\gZ F (zC hc) βc W/\
  (∃bs:List Nat,a.defers=bs.map (λb=>{target:= .collected b,args:= #[]})/\bs.Nodup/\∀b,b∈bs->Xc b/\F.w0.heap.size<=b/\W.heap[b]? =some (.deferred (some []))/\¬O b)/\
  (∀b,O b->Xc b/\F.w0.heap.size<=b/\¬F.X b)/\(∀b,Own βc b->X b)/\(∀b,Xc b->X b∨O b)/\Xc l
 lx:X l
 lo:¬O l
 lh:W.heap[l]? =some (.loop rec)
 ll:F.w0.heap.size<=l
 xl:∀b,X b->b<W.heap.size
 nd:∀k,zC hc k≠some .dead
section
variable {K0:List Nat} {F:Fr K0} {T:List (Nat×AV)} {a:Act} {l:Nat} {hc:List (Nat×xN)} {rec:Loop} {O O' X:Nat->Prop} {W W':World}
theorem RF.stab (C:RF F T a l hc rec O X W) (hs:W.heap.size<=W'.heap.size) (hk:∀b,b<W.heap.size->¬O b->W'.heap[b]? =W.heap[b]?) (ho:∀b,O' b->O b∨W.heap.size<=b) (hl:∀b,O' b->b<W'.heap.size) (o1:W'.os=W.os) (o2:W'.tape=W.tape) (o3:W'.output=W.output):RF F T a l hc rec O' X W':=by
 obtain⟨⟨Xc,βc,c1,c2,c3,c4,⟨bs,d1,d2,d3⟩,c6,c8,c10,c11⟩,lx,lo,lh,ll,xl,nd⟩:=C;have hlW:l<W.heap.size:=xl l lx;have own:∀k b n,(b,n)∈βc k->¬O b:=λk b n hm hO=>c2.free k b n hm (c6 b hO).1
 have E:GM W (xO Xc βc) (zC hc) βc W' (xO (λb=>(Xc b/\¬O b)∨O' b) βc) (zC hc) βc:=by
  refine⟨hs,λb hb hd=>⟨hk b hb λhO=>hd (.inl (c6 b hO).1),λh'=>?_⟩,λk b n hm=>?_,kU _ _⟩
  ·rcases h' with(hx|hx)|hx
   ·exact hd (.inl hx.1)
   ·rcases ho b hx with hO|hO
    ·exact hd (.inl (c6 b hO).1)
    ·omega
   ·exact hd (.inr hx)
  ·unfold wG World.shape?;rw[hk b (c2.lt b (.inr ⟨k,n,hm⟩)) (own k b n hm)]
 refine⟨⟨λb=>(Xc b/\¬O b)∨O' b,βc,⟨λb hb=> .inl ⟨c1.1 b hb,λhO=>(c6 b hO).2.2 hb⟩,λb hb=>?_⟩,⟨λk e he=>(c2.ent k e he).evo E Z λb n hm=>hk b (c2.lt b (.inr ⟨k,n,hm⟩)) (own k b n hm),c2.off,c2.disj,λk b n hm hx=>?_,λb hd=>?_⟩,λt=>(c3 t).evo E,⟨c4.knd,zY9 c4.size hs,λb hb hi hn=>?_,c4.own,c4.pas,λk b n hm=>?_,o1.trans c4.os,o2.trans c4.tape,o3.trans c4.output⟩,⟨bs,d1,d2,λb hb=>?_⟩,λb hb=>?_,c8,λb hb=>?_,.inl ⟨c11,lo⟩⟩,lx,λh=>?_,by rw[hk l hlW lo];exact lh,ll,λb hb=>zZe (xl b hb) hs,nd⟩
 ·rcases hb with hb|hb
  ·exact c1.2 b hb.1
  ·rcases ho b hb with hO|hO
   ·exact c1.2 b (c6 b hO).1
   ·exact .inr (zY9 c4.size hO)
 ·rcases hx with hx|hx
  ·exact c2.free k b n hm hx.1
  ·rcases ho b hx with hO|hO
   ·exact own k b n hm hO
   ·have:=c2.lt b (.inr ⟨k,n,hm⟩);omega
 ·rcases hd with(hx|hx)|hx
  ·exact zZe (c2.lt b (.inl hx.1)) hs
  ·exact hl b hx
  ·exact zZe (c2.lt b (.inr hx)) hs
 ·rw[hk b (zZe hb c4.size) λhO=>by have:=(c6 b hO).2.1;omega];exact c4.keep b hb hi hn
 ·obtain⟨n',_,hm'⟩:=c4.pas k b n hm;rw[E.bs k b n' hm',c4.bs k b n hm]
 ·obtain⟨q1,q2,q3,q4⟩:=d3 b hb;refine⟨.inl ⟨q1,q4⟩,q2,by rw[hk b (c2.lt b (.inl q1)) q4];exact q3,λh=>?_⟩
  rcases ho b h with hO|hO
  ·exact q4 hO
  ·have:=c2.lt b (.inl q1);omega
 ·refine⟨.inr hb,?_⟩
  rcases ho b hb with hO|hO
  ·exact(c6 b hO).2
  ·exact⟨zY9 c4.size hO,λhx=>by have:=c2.lt b (.inl (c1.1 b hx));omega⟩
 ·rcases hb with hb|hb
  ·exact(c10 b hb.1).imp id λhO=>absurd hO hb.2
  ·exact .inr hb
 ·rcases ho l h with hO|hO
  ·exact lo hO
  ·omega
def zJo (e:Exit) (c:Code):Prop:=(e= .ret/\c= .ret)∨∃id,e= .exit id/\c= .exit id
theorem RF.round {P:Program} {m:Nat} {ps:Array Tmp} {assign body:Code} {fn:FuncId} {bd:Nat} {Ks:List Nat} {ys:List AV} {cs:Array Value} {Rq:Exit->List (Nat×xN)->Prop} (hps:∀p,p∈ps.toList->p<m) (hm:a.tmps.size=m) (gs:m<=GS)
  (hrec:rec= {state:= .ready,pending:=none,fn:=fn,tmps:=a.tmps,params:=ps,assign:=assign,body:=body,defers:=bd}) (C:RF F T a l hc rec O X W) (hT:∀t h',wQ Ks h' (zG T t)=zG T t) (hKs:∀k,k∈K0->k∈Ks)
  (hys:cs.size=ys.length) (hpl:ps.size=ys.length) (hrep:∀(j:Nat) v,ys[j]? =some v->xE W (λb=>X b∨O b) v (cs.getD j undef)) (hRq:∀e h,Rq e h->e= .normal∨e= .ret∨∃id,e= .exit id)
  (sim:∀(F1:Fr (yS hc)),F1.it=true->F1.ro=some l->uQ P F1 m assign ⟨zCz ps.toList ys T,hc⟩ (λe s=>e= .normal/\∀(F2:Fr (yS s.h)),F2.it=true->F2.ro=some l->uQ P F2 m body s (λe s'=>Rq e (vD Ks (zC s'.h))))):
  YieldAt Fence.wide 0 P l cs W λe W'=>(e= .returned (.bool true)/\∃X',ZE X X' W W'/\∃h',Rq .normal h'/\RF F T a l h' rec O X' W')∨
   (e= .returned (.bool false)/\∃X',ZE X X' W W'/\∃h' x c,zJo x c/\Rq x h'/\RF F T a l h' {rec with state:= .done,pending:=some c} O X' W'):=by
 obtain⟨⟨Xc,βc,c1,c2,c3,c4,⟨bs,d1,d2,d3⟩,c6,c8,c10,c11⟩,lx,lo,lh,ll,xl,nd⟩:=C;have hlW:l<W.heap.size:=xl l lx;subst hrec;refine⟨_,_,_,_,run_yield lh (by simpa using hys.trans hpl.symm),?_⟩;dsimp only;refine roundIn_of_wpIn (F:=Fence.wide) (n:=0) trivial ?_
 let F1:Fr (yS hc):=⟨Xc,W,βc,zC hc,λk b n hm=>by
  cases hk:zC hc k with
  |none=>rw[c2.off k hk]at hm;simp at hm
  |some e=>exact uL hk,λk e he=>uL he,some l,true,λ_=>False,λ_ _ _ _=>True,λ_ _ _ _ _ _ _ _ _ _ _ _ _ _=>trivial⟩
 have refl1:∀{K1:List Nat} (F:Fr K1),F.it=true->jK F.X F.h0 F.β0 F.w0->(∀k,F.h0 k≠some .dead)->gZ F F.h0 F.β0 F.w0:=λF _ H nd=>
  ⟨λk e he=>by
   cases e with
   |dead=>exact absurd he (nd k)
   |box cs=>exact⟨cs,he⟩
   |obj cs=>exact⟨cs,he⟩
   |arr sz xs sl=>exact⟨xs,sl,he,zX7 _⟩,zX7 _,λ_ _ _ _=>rfl,λk b n hm=> .inl ⟨k,n,hm⟩,λk b n hm=>⟨n,zX7 _,hm⟩,λ_ _ _ _=>rfl,rfl,rfl,rfl⟩
 have fold_size:∀(z:List (Nat×Value)) (tm:Array Value),(z.foldl (λtmps (p:Nat×Value)=>tmps.setIfInBounds p.1 p.2) tm).size=tm.size:=by
  intro z
  induction z with
  |nil=>exact λ_=>rfl
  |cons p z ih=>intro tm;rw[List.foldl_cons,ih];simp
 have hfold:(ps.zip cs).foldl (λtmps (p:Nat×Value)=>tmps.setIfInBounds p.1 p.2) a.tmps=(ps.toList.zip cs.toList).foldl (λtmps (p:Nat×Value)=>tmps.setIfInBounds p.1 p.2) a.tmps:=by
  rw[<-Array.foldl_toList,Array.toList_zip]
 have R1:wN F1 m ⟨zCz ps.toList ys T,hc⟩ {tmps:=(ps.zip cs).foldl (λtmps (p:Nat×Value)=>tmps.setIfInBounds p.1 p.2) a.tmps,defers:=[]} W:=by
  refine⟨⟨Xc,βc,⟨λ_ h=>h,λ_ h=> .inl h⟩,c2,λt=>?_,refl1 F1 Z c2 nd,λ_ _=>trivial,[],rfl,λ_=>rfl,yDf,λb hb=>by simp at hb⟩,nd,gs,by rw[hfold,fold_size];exact hm⟩;rw[hfold];refine LV ps.toList ys cs.toList T a.tmps (by simpa using hys.symm) (λj v c h1 h2=>?_) (λp hp=>by rw[hm];exact hps p hp) c3 t;have h3:=hrep j v h1;have e:cs.getD j undef=c:=gV KD;rw[e]at h3;exact .fz _ _ (h3.less λb hd=>hd.elim (c10 b) λho=> .inl (c8 b ho))
 refine Code.wpIn_mono (λe a1 w1 q=>?_) ((sim F1 Z Z).run _ _ R1);obtain⟨s,⟨rfl,hs⟩,⟨⟨X1,β1,hX1,H1,Ht1,K1,_,bs1,hd1,hb1,_⟩,nd1,gs1,hl1⟩⟩:=q;have:=hb1 Z;subst this;have G1:=K1.toGoes (λ_ h=>h) c2 H1 nd;have E1:=gZ.evo hX1 G1;have hl1':w1.heap[l]? =W.heap[l]? :=K1.keep l hlW (λh=>h) λk n hm=>c2.free k l n hm c11
 have hX1l:X1 l:=hX1.1 l c11;refine⟨_,run_beginRound (hl1'.trans lh) Z,?_⟩;generalize hw2:w1.putObj l _=w2;have sz2:w2.heap.size=w1.heap.size:=by rw[<-hw2];simp
 have kp2:∀b,b≠l->w2.heap[b]? =w1.heap[b]? :=λb hb=>by rw[<-hw2];exact World.putObj_heap_other hb
 have lb2:w2.heap[l]? =some (.loop {state:= .busy,pending:=none,fn:=fn,tmps:=a.tmps,params:=ps,assign:=assign,body:=body,defers:=bd}):=by
  rw[<-hw2];exact World.putObj_heap_same (zZe hlW K1.size)
 have oth2:w2.os=w1.os/\w2.tape=w1.tape/\w2.output=w1.output:=by rw[<-hw2];exact⟨rfl,rfl,rfl⟩
 have kp2':∀b,b<w1.heap.size->¬X1 b->w2.heap[b]? =w1.heap[b]? :=λb _ hx=>kp2 b λe=>hx (e▸hX1l)
 have H1':=H1.turn (zZ5 sz2.symm) kp2';have E2:=UX H1 (zZ5 sz2.symm) kp2'
 let F2:Fr (yS s.h):=⟨X1,w2,β1,zC s.h,λk b n hm=>by
  cases hk:zC s.h k with
  |none=>rw[H1.off k hk]at hm;simp at hm
  |some e=>exact uL hk,λk e he=>uL he,some l,true,λ_=>False,λ_ _ _ _=>True,λ_ _ _ _ _ _ _ _ _ _ _ _ _ _=>trivial⟩
 have R2:wN F2 m s a1 w2:=⟨⟨X1,β1,⟨λ_ h=>h,λ_ h=> .inl h⟩,H1',λt=>(Ht1 t).evo E2,refl1 F2 Z H1' nd1,λ_ _=>trivial,[],hd1,λ_=>rfl,yDf,λb hb=>by simp at hb⟩,nd1,gs1,hl1⟩;refine Code.wpIn_mono (λe a2 w3 q=>?_) ((hs F2 Z Z).run _ _ R2);obtain⟨s3,hq,⟨⟨X3,β3,hX3,H3,_,K3,_⟩,nd3,_,_⟩⟩:=q;have G3:=K3.toGoes (λ_ h=>h) H1' H3 nd1;have E3:=gZ.evo hX3 G3;have lb3:=(K3.keep l (by show l<w2.heap.size;rw[sz2];exact zZe hlW K1.size) (λh=>h) λk n hm=>H1.free k l n hm hX1l).trans lb2;have hl3:l<w3.heap.size:=zZe (by rw[sz2];exact zZe hlW K1.size) K3.size;have hX3l:X3 l:=hX3.1 l hX1l;have s13:W.heap.size<=w3.heap.size:=zY9 K1.size (by rw[<-sz2];exact K3.size)
 have key:∀rec':Loop,∃X',ZE X X' W (w3.putObj l (.loop rec'))/\RF F T a l (vD Ks (zC s3.h)) rec' O X' (w3.putObj l (.loop rec')):=by
  intro rec';generalize hw4:w3.putObj l (.loop rec')=w4;have sz4:w4.heap.size=w3.heap.size:=by rw[<-hw4];simp
  have kp4:∀b,b≠l->w4.heap[b]? =w3.heap[b]? :=λb hb=>by rw[<-hw4];exact World.putObj_heap_other hb
  have lb4:w4.heap[l]? =some (.loop rec'):=by rw[<-hw4];exact World.putObj_heap_same hl3
  have oth4:w4.os=w3.os/\w4.tape=w3.tape/\w4.output=w3.output:=by rw[<-hw4];exact⟨rfl,rfl,rfl⟩
  have kp4':∀b,b<w3.heap.size->¬X3 b->w4.heap[b]? =w3.heap[b]? :=λb _ hx=>kp4 b λe=>hx (e▸hX3l)
  obtain⟨H4,hv4⟩:=H3.restr Ks;have H5:=H4.turn (zZ5 sz4.symm) kp4';have E5:=UX H4 (zZ5 sz4.symm) kp4'
  have oc:∀b,X3 b->Xc b∨W.heap.size<=b:=λb hb=>by
   rcases hX3.2 b hb with h|h
   ·exact hX1.2 b h
   ·have h2:w2.heap.size<=b:=h;rw[sz2]at h2;exact .inr (zY9 K1.size h2)
  have old:∀b,b<W.heap.size->b≠l->¬Own βc b->w4.heap[b]? =W.heap[b]? :=λb hb hne hno=>by
   rw[kp4 b hne]
   have h1:∀k n,(b,n)∉β1 k:=λk n hm=>by
    rcases K1.own k b n hm with⟨k',n',h⟩|h
    ·exact hno ⟨k',n',h⟩
    ·have:W.heap.size<=b:=h;omega
   have q1:=K3.keep b (by show b<w2.heap.size;rw[sz2];exact zZe hb K1.size) (λh=>h) h1;have q2:=K1.keep b hb (λh=>h) λk n hm=>hno ⟨k,n,hm⟩
   exact q1.trans ((kp2 b hne).trans q2)
  have KF:gZ F (zC (vD Ks (zC s3.h))) (βr Ks β3) w4:=by
   have k1:gZ F (zC s.h) β1 w1:=c4.goes G1 nd1 λk b n hm=>K1.pas k b n hm
   have k2:gZ F (zC s.h) β1 w2:=k1.turn H1 sz2 kp2' (λb hb=>kp2 b λe=>by omega) oth2.1 oth2.2.1 oth2.2.2;have k3:gZ F (zC s3.h) β3 w3:=k2.goes G3 nd3 λk b n hm=>K3.pas k b n hm
   have k4:=k3.restr Ks hKs;exact k4.turn H4 sz4 kp4' (λb hb=>kp4 b λe=>by omega) oth4.1 oth4.2.1 oth4.2.2
  refine⟨λb=>X b∨Own (βr Ks β3) b∨(X3 b/\¬O b),⟨by omega,λb hb hx=>⟨old b hb (λe=>hx (e▸lx)) λho=>hx (c8 b ho),λh'=>?_⟩,λb hb=> .inl hb,λb hb=>?_,?_,?_,?_⟩,⟨X3,βr Ks β3,⟨λb hb=>hX3.1 b (hX1.1 b (c1.1 b hb)),λb hb=>?_⟩,H5,λt=>?_,KF,⟨bs,d1,d2,λb hb=>?_⟩,λb hb=>?_,λb hb=> .inr (.inl hb),λb hb=>?_,hX3l⟩,.inl lx,lo,lb4,ll,λb hb=>?_,λk=>?_⟩
  ·rcases h' with h|⟨k,n,hm⟩|⟨h,hO⟩
   ·exact hx h
   ·have hm:=(kF hm).2
    rcases K3.own k b n hm with⟨k',n',h⟩|h
    ·rcases K1.own k' b n' h with⟨k2,n2,h⟩|h
     ·exact hx (c8 b ⟨k2,n2,h⟩)
     ·have:W.heap.size<=b:=h;omega
    ·have h2:w2.heap.size<=b:=h;have:=K1.size;have:W.heap.size<=w1.heap.size:=this;omega
   ·rcases oc b h with h|h
    ·exact(c10 b h).elim hx hO
    ·omega
  ·rcases hb with h|⟨k,n,hm⟩|⟨h,hO⟩
   ·have:=xl b h;omega
   ·rw[sz4];exact H3.lt b (.inr ⟨k,n,(kF hm).2⟩)
   ·rw[sz4];exact H3.lt b (.inl h)
  ·exact oth4.1.trans (K3.os.trans (oth2.1.trans K1.os))
  ·exact oth4.2.1.trans (K3.tape.trans (oth2.2.1.trans K1.tape))
  ·exact oth4.2.2.trans (K3.output.trans (oth2.2.2.trans K1.output))
  ·rcases oc b hb with h|h
   ·exact c1.2 b h
   ·exact .inr (zY9 c4.size h)
  ·have:=hv4 _ _ ((((c3 t).evo E1).evo E2).evo E3);rw[hT]at this;exact this.evo E5
  ·obtain⟨q1,q2,q3,q4⟩:=d3 b hb;refine⟨hX3.1 b (hX1.1 b q1),q2,?_,q4⟩;rw[old b (c2.lt b (.inl q1)) (λe=>by rw[e,lh]at q3;cases q3) λ⟨k,n,hm⟩=>c2.free k b n hm q1];exact q3
  ·exact⟨hX3.1 b (hX1.1 b (c6 b hb).1),(c6 b hb).2⟩
  ·by_cases hO:O b
   ·exact .inr hO
   ·exact .inl (.inr (.inr ⟨hb,hO⟩))
  ·rcases hb with h|⟨k,n,hm⟩|⟨h,hO⟩
   ·have:=xl b h;omega
   ·rw[sz4];exact H3.lt b (.inr ⟨k,n,(kF hm).2⟩)
   ·rw[sz4];exact H3.lt b (.inl h)
  ·rw[xZ];split
   ·intro h;rw[zYf]at h;obtain⟨e,he,h2⟩:=h
    cases e with
    |dead=>exact nd3 k he
    |box cs=>cases h2
    |obj cs=>cases h2
    |arr sz xs st=>obtain⟨xs2,fl2,h4,_⟩:=gT Ks (zC s3.h) sz xs st;rw[h4]at h2;cases h2
   ·intro h;cases h
 rcases hRq e _ hq with rfl|rfl|⟨id,rfl⟩
 ·obtain⟨X',q1,q2⟩:=key {state:= .ready,pending:=none,fn:=fn,tmps:=a.tmps,params:=ps,assign:=assign,body:=body,defers:=bd};exact⟨_,_,run_endRound none lb3,.inl ⟨rfl,X',q1,_,hq,q2⟩⟩
 ·obtain⟨X',q1,q2⟩:=key {state:= .done,pending:=some .ret,fn:=fn,tmps:=a.tmps,params:=ps,assign:=assign,body:=body,defers:=bd};exact⟨_,_,run_endRound (some .ret) lb3,.inr ⟨rfl,X',q1,_,.ret,.ret,.inl ⟨rfl,rfl⟩,hq,q2⟩⟩
 ·obtain⟨X',q1,q2⟩:=key {state:= .done,pending:=some (.exit id),fn:=fn,tmps:=a.tmps,params:=ps,assign:=assign,body:=body,defers:=bd};exact⟨_,_,run_endRound (some (.exit id)) lb3,.inr ⟨rfl,X',q1,_,.exit id,.exit id,.inr ⟨id,rfl,rfl⟩,hq,q2⟩⟩
end
def RG (w:World) (o:Obj) (b:Nat) (h:b<w.heap.size):(w.alloc o).heap[b]? =w.heap[b]? :=by
 show(w.heap.push o)[b]? =_
 rw[Array.getElem?_push,zX2 (by omega)]
theorem gZ.grow {K0:List Nat} {F:Fr K0} {h:yJ} {β:uW} {w w':World} {X:Nat->Prop} (K:gZ F h β w) (H:jK X h β w) (hs:w.heap.size<=w'.heap.size) (hk:∀b,b<w.heap.size->w'.heap[b]? =w.heap[b]?) (o1:w'.os=w.os) (o2:w'.tape=w.tape) (o3:w'.output=w.output):gZ F h β w':=
 ⟨K.knd,zY9 K.size hs,λb hb hi hn=>by rw[hk b (zZe hb K.size)];exact K.keep b hb hi hn,K.own,K.pas,λk b n hm=>by
  rw[<-K.bs k b n hm];obtain⟨n',_,hm'⟩:=K.pas k b n hm;unfold wG World.shape?
  rw[hk b (H.lt b (.inr ⟨k,n',hm'⟩))],o1.trans K.os,o2.trans K.tape,o3.trans K.output⟩
section
variable {P:Program} {K0:List Nat} {F:Fr K0} {m:Nat} {st:St} {T:List (Nat×AV)} {a:Act} {l:Nat} {hc:List (Nat×xN)} {rec:Loop} {O X:Nat->Prop} {W:World}
theorem RF.rel (C:RF F T a l hc rec O X W) (hit:F.it=false) (hT:∀i,zG T GS≠ .gh i) (gs:m<=GS) (hl:a.tmps.size=m) (o:Obj):wN F m ⟨T,hc⟩ a (W.putObj l o):=by
 obtain⟨⟨Xc,βc,c1,c2,c3,c4,⟨bs,d1,d2,d3⟩,c6,c8,c10,c11⟩,lx,lo,lh,ll,xl,nd⟩:=C;have sz:(W.putObj l o).heap.size=W.heap.size:=by simp
 have kp:∀b,b≠l->(W.putObj l o).heap[b]? =W.heap[b]? :=λb hb=>World.putObj_heap_other hb
 have kp':∀b,b<W.heap.size->¬Xc b->(W.putObj l o).heap[b]? =W.heap[b]? :=λb _ hx=>kp b λe=>hx (e▸c11)
 refine⟨⟨Xc,βc,c1,c2.turn (zZ5 sz.symm) kp',λt=>(c3 t).evo (UX c2 (zZ5 sz.symm) kp'),c4.turn c2 sz kp' (λb hb=>kp b λe=>by omega) Z Z Z,λi hi=>absurd hi (hT i),bs,d1,(λh=>by rw[hit]at h;cases h),d2,λb hb=>?_⟩,nd,gs,hl⟩;obtain⟨q1,q2,q3,q4⟩:=d3 b hb;exact⟨q1,q2,by rw[kp b λe=>by rw[e,lh]at q3;cases q3];exact q3⟩
def rfQ (Ks:List Nat) (h':List (Nat×xN)) (p:Prop) (Q:Exit->St->Prop) (T:List (Nat×AV)):Exit->St->Prop
 | .normal,s=>vD Ks (zC s.h)=h'/\p
 | .ret,s=>Q .ret ⟨T,vD Ks (zC s.h)⟩
 | .exit id,s=>Q (.exit id) ⟨T,vD Ks (zC s.h)⟩
 |_,_=>False
theorem vM {g:Operand} {ps:Array Tmp} {assign body:Code} {f:Nat} {caps:List AV} {h0:List (Nat×xN)} {xs:List (List AV)} {Q:Exit->St->Prop} (hF:F.ro=none/\F.it=false) (hit:aP P f caps h0 xs) (hg:yM (zG st.tm) g= .fn f caps)
  (Ks ts:List Nat) (hKs:K0.all (Ks.contains ·)=true) (hdis:Ks.all (λk=>!(yS h0).contains k)=true) (hh0:(yS h0).map (zC st.h)=(yS h0).map (zC h0)) (hcl:h0.all (λp=>clE (yS h0) p.2)=true)
  (hcap:(jO caps).all ((yS h0).contains ·)=true) (hts:ts.all (λt=>(zG st.tm t).refs.all (λk=>!(yS h0).contains k))=true)
  (hks:Ks.all (λk=>match zC st.h k with|some (.box cs)=>(jO cs).all (λj=>!(yS h0).contains j)|_=>true)=true) (hgs:ts.all (λt=>!(Nat.beq t GS))=true) (hps:ps.toList.all (Nat.blt · m)=true) (hpl:∀(i:Nat) ys,xs[i]? =some ys->ps.size=ys.length)
  (H:Nat->List (Nat×xN)) (I:Nat->Prop) {T:List (Nat×AV)} (e0:restr Ks ts st=⟨T,H 0⟩) (i0:I 0)
  (round:∀(i:Nat) ys l,xs[i]? =some ys->I i->∀(F1:Fr (yS (H i))),F1.it=true->F1.ro=some l->uQ P F1 m assign ⟨zCz ps.toList ys T,H i⟩ (λe s=>e= .normal/\∀(F2:Fr (yS s.h)),F2.it=true->F2.ro=some l->uQ P F2 m body s (rfQ Ks (H (i+1)) (I (i+1)) Q T)))
  (done:I xs.length->Q .normal ⟨T,H xs.length⟩) (hnn:nnH st.h=true:=by rfl):uQ P F m (.rangeFunc g ps assign body) st Q:=⟨λa w R=>by
 rw[hF.1]
 change Code.wpIn Fence.wide 0 P _ _ a w
 obtain⟨⟨X0,β,hX,HH,Ht,KK,_,bs,hds,_,hbn,hbs⟩,nd,gs,hl⟩:=R
 have hK:∀k,k∈yS h0->zC st.h k=zC h0 k:=λk hk=>by
  obtain⟨i,hi⟩:=yBx hk;have:=zY3 (·[i]?) hh0;simpa [hi]using this
 have hclosed:∀k e,zC h0 k=some e->clE (yS h0) e=true:=λk e hk=>by
  obtain⟨p,hp,he⟩:=cL hk;have:=zYi.1 hcl p hp;rw[he]at this;exact this
 have hdis':∀k,k∈yS h0->¬k∈Ks:=λk h1 h2=>by
  have:=zYi.1 hdis k h2;simp at this;exact this h1
 have hent:∀k cs,k∈Ks->zC st.h k=some (.box cs)->∀j,j∈jO cs->¬j∈yS h0:=λk cs hk he j hj h1=>by
  have:=zYi.1 hks k hk;rw[he]at this;have:=zYi.1 this j hj;simp at this;exact this h1
 have hK0:∀k,k∈K0->k∈Ks:=λk hk=>by simpa using zYi.1 hKs k hk
 have hTt:T=ts.map λt=>(t,wQ Ks (zC st.h) (zG st.tm t)):=by have:=zY3 St.tm e0;exact this.symm
 have hH0:vD Ks (zC st.h)=H 0:=zY3 St.h e0
 have hlook:∀t,zG T t=if t∈ts then wQ Ks (zC st.h) (zG st.tm t)else .bot:=λt=>by
  rw[<-gB Ks ts st t,e0]
 have hTi:∀t h',wQ Ks h' (zG T t)=zG T t:=λt h'=>by
  rw[hlook];split
  ·exact zJn _ _ _ _
  ·rfl
 have hTg:∀i,zG T GS≠ .gh i:=λi=>by
  rw[hlook];split
  ·rename_i h;have:=zYi.1 hgs GS h;simp at this
  ·intro h;cases h
 have hfv:=PE Ht g;rw[hg]at hfv
 obtain⟨cv,hfx,hcvl,hcv⟩:∃cv:Array Value,a.eval g= .func (.func f) #[] cv/\cv.size=caps.length/\∀(i:Nat) v,caps[i]? =some v->yB w (xO X0 β) (zC st.h) β v (cv.getD i undef):=by
  generalize a.eval g=cx at hfv
  cases hfv with
  |fz _ _ hf=>cases hf
  |fn _ _ c hl hh=>exact⟨c,rfl,hl,hh⟩
 refine wpIn_rangeFunc (F:=Fence.wide) (n:=0) λfn _=>?_
 generalize hrec:({state:= .ready,pending:=none,fn:=fn,tmps:=a.tmps,params:=ps,assign:=assign,body:=body,defers:=w.heap.size}:Loop)=rec;obtain⟨w1,hw1⟩:∃w1,w1=(w.alloc (.deferred (some []))).alloc (.loop rec):=⟨_,rfl⟩;have sz1:w1.heap.size=w.heap.size+2:=by rw[hw1];simp
 have kp1:∀b,b<w.heap.size->w1.heap[b]? =w.heap[b]? :=λb hb=>by rw[hw1,RG _ _ b xX,RG _ _ b hb]
 have hbd:w1.heap[w.heap.size]? =some (.deferred (some [])):=by rw[hw1,RG _ _ _ zW];exact World.alloc_heap_new _ _
 have hlp:w1.heap[w.heap.size+1]? =some (.loop rec):=by
  rw[hw1];have:=World.alloc_heap_new (w.alloc (.deferred (some []))) (.loop rec);simpa using this
 have oth1:w1.os=w.os/\w1.tape=w.tape/\w1.output=w.output:=by rw[hw1];exact⟨rfl,rfl,rfl⟩
 have hent1:(Instr.enterLoop fn a.tmps ps assign body none).run P w= .ok (w.heap.size+1,[{target:= .collected w.heap.size,args:= #[]}]) w1:=by
  rw[hw1,<-hrec];exact run_enterLoop_outer fn a.tmps ps assign body
 generalize hl0:w.heap.size+1=l at hlp hent1
 let a':Act:={a with defers:=[{target:= .collected w.heap.size,args:= #[]}]++a.defers}
 let J:Nat->(Nat->Prop)->(Nat->Prop)->World->Prop:=λi O X W=>(i<=xs.length/\I i/\RF F T a' l (H i) rec O X W)∨
  (xs.length<i/\∃h' x c,zJo x c/\Q x ⟨T,h'⟩/\RF F T a' l h' {rec with state:= .done,pending:=some c} O X W)
 have Jst:∀i O X w w' O',J i O X w->w.heap.size<=w'.heap.size->(∀b,b<w.heap.size->¬O b->w'.heap[b]? =w.heap[b]?)->(∀b,O' b->O b∨w.heap.size<=b)->(∀b,O' b->b<w'.heap.size)->w'.os=w.os->w'.tape=w.tape->w'.output=w.output->J i O' X w':=by
  rintro i O X v v' O' (⟨h1,hI,h2⟩|⟨h1,h',x,c,h2,h3,h4⟩) q1 q2 q3 q4 q5 q6 q7
  ·exact .inl ⟨h1,hI,h2.stab q1 q2 q3 q4 q5 q6 q7⟩
  ·exact .inr ⟨h1,h',x,c,h2,h3,h4.stab q1 q2 q3 q4 q5 q6 q7⟩
 let O0:Nat->Prop:=Own (βr (yS h0) β)
 let Xa:Nat->Prop:=λb=>X0 b∨∃k n,k∈yS h0/\(b,n)∈β k
 let Xc:Nat->Prop:=λb=>Xa b∨b=w.heap.size∨b=l
 let Xi:Nat->Prop:=λb=>X0 b∨Own (βr Ks β) b
 let X1:Nat->Prop:=λb=>Xi b∨b=w.heap.size∨b=l
 have hOlt:∀b,O0 b->b<w.heap.size:=λb ⟨k,n,hm⟩=>HH.lt b (.inr ⟨k,n,(kF hm).2⟩)
 have hXalt:∀b,Xa b->b<w.heap.size:=λb hb=>hb.elim (λh=>HH.lt b (.inl h)) λ⟨k,n,_,hm⟩=>HH.lt b (.inr ⟨k,n,hm⟩)
 have hXilt:∀b,Xi b->b<w.heap.size:=λb hb=>hb.elim (λh=>HH.lt b (.inl h)) λ⟨k,n,hm⟩=>HH.lt b (.inr ⟨k,n,(kF hm).2⟩)
 have hOX:∀b,O0 b->¬X0 b:=λb ⟨k,n,hm⟩ hx=>HH.free k b n (kF hm).2 hx
 obtain⟨H1,hv1⟩:=HH.restrX (X':=Xa) Ks (yS h0) (λb hb=>hb) hdis' (zJm hnn) hent
 have Q1:ZE Xa Xc w w1:=⟨by omega,λb hb hx=>⟨kp1 b hb,λh=>by
  rcases h with h|h|h
  ·exact hx h
  ·omega
  ·omega⟩,λb hb=> .inl hb,λb hb=>by
  rcases hb with h|h|h
  ·have:=hXalt b h;omega
  ·omega
  ·omega,oth1.1,oth1.2.1,oth1.2.2⟩
 obtain⟨H2,hv2⟩:=zXo (Xc:=Xi) HH hK hclosed (λb hb=>by
  rcases hb with h|⟨k,n,hm⟩
  ·exact .inl h
  ·obtain⟨hk,hm⟩:=kF hm
   exact .inr ⟨k,n,λh=>hdis' k h hk,hm⟩)
 have Q2:ZE Xi X1 w w1:=⟨by omega,λb hb hx=>⟨kp1 b hb,λh=>by
  rcases h with h|h|h
  ·exact hx h
  ·omega
  ·omega⟩,λb hb=> .inl hb,λb hb=>by
  rcases hb with h|h|h
  ·have:=hXilt b h;omega
  ·omega
  ·omega,oth1.1,oth1.2.1,oth1.2.2⟩
 have C0:RF F T a' l (H 0) rec O0 X1 w1:=by
  rw[<-hH0];refine⟨⟨Xc,βr Ks β,⟨λb hb=> .inl (.inl (hX.1 b hb)),λb hb=>?_⟩,Q1.hok H1,λt=>?_,(KK.restr Ks hK0).grow H1 (by omega) kp1 oth1.1 oth1.2.1 oth1.2.2,⟨w.heap.size::bs,?_,?_,λb hb=>?_⟩,λb hb=>?_,λb hb=> .inl (.inr hb),λb hb=>?_,.inr (.inr Z)⟩,.inr (.inr Z),λh=>?_,hlp,?_,Q2.lt,λk=>?_⟩
  ·rcases hb with(h|⟨k,n,hk,hm⟩)|h|h
   ·exact hX.2 b h
   ·rcases KK.own k b n hm with⟨k',n',h⟩|h
    ·exfalso;obtain⟨n'',_,hm'⟩:=KK.pas k' b n' h;have:=HH.disj k k' b n n'' hm hm';subst this;exact hdis' k hk (hK0 k (F.hK k b n' h))
    ·exact .inr h
   ·exact .inr (by have:=KK.size;omega)
   ·exact .inr (by have:=KK.size;omega)
  ·rw[hlook];split
   ·rename_i ht
    exact(hv1 _ _ (λj hj h1=>by
     have:=zYi.1 hts t ht;have:=zYi.1 this j hj;simp at this
     exact this h1) (Ht t)).evo (Q1.evo H1)
   ·exact .fz _ _ (.bot _)
  ·show [_]++a.defers=_
   rw[hds];rfl
  ·refine List.nodup_cons.2 ⟨λh=>?_,hbn⟩;have:=HH.lt _ (.inl (hbs _ h).1);omega
  ·rcases zZg.1 hb with rfl|hb
   ·exact⟨.inr (.inl Z),KK.size,hbd,λh=>by have:=hOlt _ h;omega⟩
   ·obtain⟨q1,q2,q3⟩:=hbs b hb;exact⟨.inl (.inl q1),q2,by rw[kp1 b (HH.lt b (.inl q1))];exact q3,λh=>hOX b h q1⟩
  ·obtain⟨k,n,hm⟩:=hb;obtain⟨hk,hm⟩:=kF hm;refine⟨.inl (.inr ⟨k,n,hk,hm⟩),?_,λh=>HH.free k b n hm (hX.1 b h)⟩
   rcases KK.own k b n hm with⟨k',n',h⟩|h
   ·exfalso;obtain⟨n'',_,hm'⟩:=KK.pas k' b n' h;have:=HH.disj k k' b n n'' hm hm';subst this;exact hdis' k hk (hK0 k (F.hK k b n' h))
   ·exact h
  ·rcases hb with(h|⟨k,n,hk,hm⟩)|h|h
   ·exact .inl (.inl (.inl h))
   ·exact .inr ⟨k,n,by rw[XV hk];exact hm⟩
   ·exact .inl (.inr (.inl h))
   ·exact .inl (.inr (.inr h))
  ·have:=hOlt _ h;omega
  ·have:=KK.size;omega
  ·rw[xZ];split
   ·intro h;rw[zYf]at h;obtain⟨e,he,h2⟩:=h
    cases e with
    |dead=>exact nd k he
    |box cs=>cases h2
    |obj cs=>cases h2
    |arr sz xs fl=>obtain⟨xs2,fl2,h4,_⟩:=gT Ks (zC st.h) sz xs fl;rw[h4]at h2;cases h2
   ·intro h;cases h
 let Fi:Fr (yS h0):=⟨X1,w1,βr (yS h0) β,zC h0,λk b n hm=>(kF hm).1,λk e he=>uL he,none,true,X1,J,Jst⟩
 have call:=hit.sim l cv Fi ⟨rfl,λ_ h=>h⟩ rfl Z hcvl (Q2.hok H2) (λi v hv=>(hv2 v _ (hcv i v hv) (λk hk=>by
   have:=zYi.1 hcap k (wU hv hk)
   simpa using this)).evo (Q2.evo H2)) (.inl ⟨zYl _,i0,C0⟩) (by
  intro i ys X O W cs hys hj hcs hrep;have hilt:i<xs.length:=(zYu.1 hys).1
  rcases hj with⟨_,hI,C⟩|⟨h,_⟩
  case inr=>omega
  have hd:=C.round (P:=P) (m:=m) (Ks:=Ks) (ys:=ys) (cs:=cs) (Rq:=λe h'=>(e= .normal/\h'=H (i+1)/\I (i+1))∨((e= .ret∨∃id,e= .exit id)/\Q e ⟨T,h'⟩)) (λp hp=>by simpa using zYi.1 hps p hp) (show a'.tmps.size=m from hl) gs hrec.symm hTi hK0 hcs (hpl i ys hys) hrep
   (λe h hq=>by
    rcases hq with⟨rfl,_⟩|⟨h|h,_⟩
    ·exact .inl Z
    ·exact .inr (.inl h)
    ·exact .inr (.inr h)) (λF1 f1 f2=>(round i ys l hys hI F1 f1 f2).mono λe s ⟨he,hb⟩=>⟨he,λF2 g1 g2=>(hb F2 g1 g2).mono λe' s' hq=>by
     cases e' with
     |normal=>exact .inl ⟨rfl,hq⟩
     |ret=>exact .inr ⟨.inl Z,hq⟩
     |exit id=>exact .inr ⟨.inr ⟨id,rfl⟩,hq⟩
     |goto t=>exact hq.elim
     |panic c=>exact hq.elim
     |outgrown=>exact hq.elim⟩)
  obtain⟨fn',tm',as',bo',h1,h2⟩:=hd;refine⟨fn',tm',as',bo',h1,RoundIn.mono h2 ?_⟩;rintro e W' (⟨he,X',q,h',hq,C'⟩|⟨he,X',q,h',x,c,hx,hq,C'⟩)
  ·refine .inl ⟨he,X',q,.inl ⟨by omega,?_⟩⟩
   rcases hq with⟨_,rfl,hI'⟩|⟨h|⟨id,h⟩,_⟩
   ·exact⟨hI',C'⟩
   ·cases h
   ·cases h
  ·refine .inr ⟨he,X',q,.inr ⟨by omega,h',x,c,hx,?_,C'⟩⟩
   rcases hq with⟨h,_⟩|⟨_,h⟩
   ·rcases hx with⟨rfl,_⟩|⟨id,rfl,_⟩<;>cases h
   ·exact h)
 refine⟨l,[{target:= .collected w.heap.size,args:= #[]}],w1,{target:= .fn (.func f) cv,args:= #[.func (.yield l) #[] #[]]},w1,f, #[.func (.yield l) #[] #[]]++cv,w1,hent1,?_,λ_ _=>trivial,(by simp only[invoke];exact hit.able _ _),λh=>by simp[Fence.wide]at h,?_⟩
 ·unfold resolve rangeCall;dsimp only;rw[hfx];simp[Deferred.ofValue,Act.eval]
 ·refine callsIn_wide.2 (Calls.mono call ?_);rintro e w' ⟨⟨v,rfl⟩,i,O,X,hj,hi⟩;have len':a'.tmps.size=m:=hl
  rcases hj with⟨h1,hI,C⟩|⟨h1,h',x,c,hx,hq,C⟩
  ·obtain rfl:i=xs.length:=by omega
   refine⟨_,_,run_endLoop C.lh (by rw[<-hrec];intro h;cases h),?_⟩;rw[show rec.pending=none by rw[<-hrec]];exact⟨_,done hI,C.rel hF.2 hTg gs len' _⟩
  ·refine⟨_,_,run_endLoop C.lh (by intro h;cases h),?_⟩;have R:=C.rel hF.2 hTg gs len' (.loop {({rec with state:= .done,pending:=some c}:Loop)with state:= .exhausted})
   rcases hx with⟨rfl,rfl⟩|⟨id,rfl,rfl⟩
   ·exact wpIn_ret ⟨_,hq,R⟩
   ·exact wpIn_exit ⟨_,hq,R⟩⟩
end
def byA (n:Int):AV:= .s (.int .u8 n)
def eqY (a b:List Int):Bool:=(strOfNums a).toList==(strOfNums b).toList
def BY (l:List Int):Prop:=∀x∈l,0<=x/\x<256
def ON (a:List Int):(strOfNums a).toList=a.map λn=>UInt8.ofNat n.toNat:=by
 rw[ByteArray.toList_eq];rfl
def zTl (a b:List Int):eqY a b=decide ((a.map λn=>UInt8.ofNat n.toNat)=b.map λn=>UInt8.ofNat n.toNat):=by
 unfold eqY;rw[ON,ON];rw[yCs];simp
def bW (a:List Int):eqY a a=true:=by rw[zTl];simp
def fH (m n:Int):Int:=IntKind.i64.wrap (BitVec.ofInt IntKind.i64.bits m &&& BitVec.ofInt IntKind.i64.bits n).toNat
def orI (m n:Int):Int:=IntKind.i64.wrap (BitVec.ofInt IntKind.i64.bits m ||| BitVec.ofInt IntKind.i64.bits n).toNat
def zTm (m n:Int):Int:=IntKind.i64.wrap (BitVec.ofInt IntKind.i64.bits m &&& ~~~BitVec.ofInt IntKind.i64.bits n).toNat
section
variable {P:Program} {TT:List TI} {tm:List (Nat×AV)} {h:List (Nat×xN)} {tx ty:Nat} {x y:Operand}
def gO {m n:Int} (hx:yM (zG tm) x= .s (.int .i64 m)) (hy:yM (zG tm) y= .s (.int .i64 n)):wV P ⟨tm,h⟩ (.binOp .and tx x y ty) (.s (.int .i64 (fH m n))) [] [] []:=PF hx hy
def kG {m n:Int} (hx:yM (zG tm) x= .s (.int .i64 m)) (hy:yM (zG tm) y= .s (.int .i64 n)):wV P ⟨tm,h⟩ (.binOp .or tx x y ty) (.s (.int .i64 (orI m n))) [] [] []:=IM hx hy
def gP {m n:Int} (hx:yM (zG tm) x= .s (.int .i64 m)) (hy:yM (zG tm) y= .s (.int .i64 n)):wV P ⟨tm,h⟩ (.binOp .andNot tx x y ty) (.s (.int .i64 (zTm m n))) [] [] []:=zAu hx hy
def kS {a b:List Int} (hx:yM (zG tm) x= .s (.string (strOfNums a))) (hy:yM (zG tm) y= .s (.string (strOfNums b))):wV P ⟨tm,h⟩ (.binOp .eql tx x y ty) (.s (.bool (eqY a b))) [] [] []:=QB hx hy (.inl ⟨rfl,rfl⟩)
def kT {a b:List Int} (hx:yM (zG tm) x= .s (.string (strOfNums a))) (hy:yM (zG tm) y= .s (.string (strOfNums b))):wV P ⟨tm,h⟩ (.binOp .neq tx x y ty) (.s (.bool (!eqY a b))) [] [] []:=QB hx hy (.inr ⟨rfl,rfl⟩)
def qM (hP:uZ P TT) {src dst e:Nat} {ts te td:TI} {nn:Bool} {xs:List AV} {l:List Int} (hs:TT[src]? =some ts) (hsd:ts.d= .slice e) (he:TT[e]? =some te) (hek:te.d= .int .u8) (hd:TT[dst]? =some td) (hdd:td.d= .string)
  (hx:yM (zG tm) x= .sl nn xs) (hl:xs=l.map byA):wV P ⟨tm,h⟩ (.convert src dst x) (.s (.string (strOfNums l))) [] [] []:=
 yO λo X tm h w β a ho hg _ HH Ht=>by
  obtain⟨dst',op',type,pos,after,guard⟩:=o;dsimp only at ho;subst ho;have h1:=gU Ht hg (x:=x) uT hx;obtain⟨_,u1,_,_,hu1,_,hd1,_⟩:=uM (hP _ _ hs);obtain⟨_,u2,_,_,hu2,_,hd2,_⟩:=uM (hP _ _ he);obtain⟨_,u3,_,_,hu3,_,hd3,_⟩:=uM (hP _ _ hd);obtain rfl:=vX (hd1.symm.trans hsd);obtain rfl:=IL (hd2.symm.trans hek);obtain rfl:=zEv (hd3.symm.trans hdd);subst hl;refine⟨.string (strOfNums l),?_,.fz _ _ (.s _)⟩
  have key:(convert src dst (a.eval x)).run P w= .ok (.string (strOfNums l)) w:=by
   generalize a.eval x=cx at h1
   cases h1 with
   | fz _ _ hf=>
    generalize hxs:l.map byA=xs at hf
    cases hf with
    | nil b cap=>
     obtain rfl:l=[]:=by cases l with
      |nil=>rfl
      |cons z l=>simp at hxs
     cases b with
     |none=>exact run_convert_bytes_nil w src e hu1 hu2 0 cap dst hu3
     |some b=>
      rw[run_convert_bytes_string w src dst e _ 0 cap hu1 hu2 hu3];simp[Conv.bytesToString,loadCells];rfl
    | nil1 b cap=>
     obtain rfl:l=[]:=by cases l with
      |nil=>rfl
      |cons z l=>simp at hxs
     rw[run_convert_bytes_string w src dst e _ 0 cap hu1 hu2 hu3];simp[Conv.bytesToString,loadCells];rfl
    | sl _ _ b o sz cap f hx hL hcc hh=>
     subst hxs;have hat:∀i,i<l.length->(l.map byA)[i]? =some (byA (l.getD i 0)):=λi hi=>by simp[List.getD,hi]
     have hsz:sz=1:=by
      cases l with
      |nil=>exact absurd Z hx
      |cons z l=>exact(hL.wide 0 (byA z) Z).symm
     subst hsz
     have:=run_convert_bytes_arg (P:=P) w src e hu1 hu2 b o (l.map byA).length cap l zW (λi hi=>by
      have hi':i<l.length:=by simpa using hi
      have h2:=hL.cell i 0 (by simpa using hi') (by omega);have h3:=(hh i _ 0 (byA (l.getD i 0)) (hat i hi') Z);rw[show o+i=o+i*1+0 by omega,h2];unfold byA at h3;generalize f i 0=c at h3;cases h3
      rfl) dst hu3
     exact this
  simp[execOp,key]
end
section
variable {P:Program} {TT:List TI} {K0:List Nat} {F:Fr K0} {m:Nat} {ops:Array Oper} {rest:List Oper} {Q:List FP->St->Prop} {tm:List (Nat×AV)} {h:List (Nat×xN)} {dr:Bool} {fs:List FP}
variable {ty:Nat} {pos:String} {after:Array Edge} {t:Nat}
def uB {T:Nat} {x:Operand} {lo hi mx:Option Operand} {st:St} (hk:yE P F m ops dr (⟨some t,.slice T x lo hi mx,ty,pos,after,none⟩::rest) st fs Q):yE P F m ops dr (⟨some t,.slice T x lo hi mx,ty,pos,after,none⟩::rest) st fs Q:=hk
def gQ (hP:uZ P TT) {T e:Nat} {x l:Operand} {ti te:TI} {nn:Bool} {xs ys:List AV} {k:IntKind} {i:Int} (hx:yM (zG tm) x= .sl nn xs) (hl:yM (zG tm) l= .s (.int k i)) (hT:TT[T]? =some ti) (hd:ti.d= .slice e) (he:TT[e]? =some te)
  (hsz:∀y,xs[0]? =some y->y.cells.length=te.size) (h0:0<=i) (h1:i<=xs.length) (hy:xs.drop i.toNat=ys) (hm:Nat.blt t m=true) (hk:yE P F m ops dr rest ⟨(t,.sl nn ys)::tm,h⟩ (⟨true,[],[]⟩::fs) Q):
  yE P F m ops dr (⟨some t,.slice T x (some l) none none,ty,pos,after,none⟩::rest) ⟨tm,h⟩ fs Q:=by
 have:=aW (P:=P) (st:=⟨tm,h⟩) (lo:=some l) (hi:=none) (l:=i.toNat) (r:=xs.length) hP hx hT hd he ⟨k,i,hl,by omega⟩ rfl (by omega) (zX7 _) hsz;rw[show(xs.drop i.toNat).take (xs.length-i.toNat)=ys by rw[<-hy];exact zYe zW]at this;exact zP this hm hk
def cJ (hP:uZ P TT) {T e:Nat} {x l:Operand} {ti te:TI} {nn:Bool} {xs ys:List AV} {k:IntKind} {i:Int} (hx:yM (zG tm) x= .sl nn xs) (hl:yM (zG tm) l= .s (.int k i)) (hT:TT[T]? =some ti) (hd:ti.d= .slice e) (he:TT[e]? =some te)
  (hsz:∀y,xs[0]? =some y->y.cells.length=te.size) (h0:0<=i) (h1:i<=xs.length) (hy:xs.take i.toNat=ys) (hm:Nat.blt t m=true) (hk:yE P F m ops dr rest ⟨(t,.sl nn ys)::tm,h⟩ (⟨true,[],[]⟩::fs) Q):
  yE P F m ops dr (⟨some t,.slice T x none (some l) none,ty,pos,after,none⟩::rest) ⟨tm,h⟩ fs Q:=by
 have:=aW (P:=P) (st:=⟨tm,h⟩) (lo:=none) (hi:=some l) (l:=0) (r:=i.toNat) hP hx hT hd he Z ⟨k,i,hl,by omega⟩ (by omega) (by omega) hsz;rw[show(xs.drop 0).take (i.toNat-0)=ys by rw[<-hy];rfl]at this;exact zP this hm hk
def dI (hP:uZ P TT) {T e:Nat} {x l l2:Operand} {ti te:TI} {nn:Bool} {xs ys:List AV} {k k2:IntKind} {i j:Int} (hx:yM (zG tm) x= .sl nn xs) (hl:yM (zG tm) l= .s (.int k i)) (hl2:yM (zG tm) l2= .s (.int k2 j)) (hT:TT[T]? =some ti) (hd:ti.d= .slice e) (he:TT[e]? =some te)
  (hsz:∀y,xs[0]? =some y->y.cells.length=te.size) (h0:0<=i) (h1:i<=j) (h2:j<=xs.length) (hy:(xs.drop i.toNat).take (j.toNat-i.toNat)=ys) (hm:Nat.blt t m=true) (hk:yE P F m ops dr rest ⟨(t,.sl nn ys)::tm,h⟩ (⟨true,[],[]⟩::fs) Q):
  yE P F m ops dr (⟨some t,.slice T x (some l) (some l2) none,ty,pos,after,none⟩::rest) ⟨tm,h⟩ fs Q:=by
 have:=aW (P:=P) (st:=⟨tm,h⟩) (lo:=some l) (hi:=some l2) (l:=i.toNat) (r:=j.toNat) hP hx hT hd he ⟨k,i,hl,by omega⟩ ⟨k2,j,hl2,by omega⟩ (by omega) (by omega) hsz;rw[hy]at this;exact zP this hm hk
end
theorem yB.offK {w:World} {D D':Nat->Prop} {h h':yJ} {β β':uW} (k:Nat) (hD:∀b,D' b->D b) (hh:∀j,j≠k->h' j=h j) (hβ:∀j,j≠k->β' j=β j) {v:AV} {c:Value} (hv:yB w D h β v c):k∉v.refs->yB w D' h' β' v c:=by
 induction hv with
 |fz v c hf=>exact λ_=> .fz v c (hf.less hD)
 |agg cs c hl h1 hr ih=>exact λhk=> .agg cs c hl h1 λi v hv=>ih i v hv λhm=>hk (wU hv hm)
 |fn f caps c hl hr ih=>exact λhk=> .fn f caps c hl λi v hv=>ih i v hv λhm=>hk (wU hv hm)
 |tup vs c hl hr ih=>exact λhk=> .tup vs c hl λi v hv=>ih i v hv λhm=>hk (wU hv hm)
 |dref j off len c hk' h1=>exact λhk=> .dref j off len c (by rw[hh j (λe=>hk (by simp[AV.refs,e]))];exact hk') h1
 |dptr j i off c hk' h1=>exact λhk=> .dptr j i off c (by rw[hh j (λe=>hk (by simp[AV.refs,e]))];exact hk') h1
 |ref j off len sz xs st b n cap hk' hb hn hc hs=>
  intro hk;have hj:j≠k:=λe=>hk (by simp[AV.refs,e])
  exact .ref j off len sz xs st b n cap OW zC8 hn hc hs
 |ref0 j off sz xs st a hk' hn=>
  intro hk;have hj:j≠k:=λe=>hk (by simp[AV.refs,e])
  exact .ref0 j off sz xs st a OW hn
 |pbox j off cs b n hk' hb=>
  intro hk;have hj:j≠k:=λe=>hk (by simp[AV.refs,e])
  exact .pbox j off cs b n OW zC8
 |parr j i off sz xs st b n hk' hb hi ho=>
  intro hk;have hj:j≠k:=λe=>hk (by simp[AV.refs,e])
  exact .parr j i off sz xs st b n OW zC8 hi ho
def AV.isGh:AV->Bool
 | .gh _=>true
 |_=>false
section
variable {P:Program} {K0:List Nat} {F:Fr K0} {m:Nat} {tm:List (Nat×AV)} {h:List (Nat×xN)}
def zOo (k:Nat):xN->Bool
 | .box cs=>!(jO cs).contains k
 | .obj cs=>true
 | .arr _ xs fl=>bif fl.nest then !(jO xs).contains k else true
 | .dead=>true
theorem wN.compact {a:Act} {w:World} (R:wN F m ⟨tm,h⟩ a w) (k:Nat) (ws:List Nat) {sz:Nat} {xs:List AV} {sb:Bool} (hk:zC h k=some (.arr sz xs ⟨sb,false⟩)) (hK0:K0.contains k=false) (hws:ws.map (zG tm)=ws.map λ_=> .ref k 0 xs.length)
  (htm:tm.all (λp=>ws.contains p.1|| !p.2.refs.contains k)=true) (hbx:h.all (λp=>zOo k p.2)=true):wN F m ⟨tm,(k,.arr sz xs false)::h⟩ a w:=by
 obtain⟨⟨X,β,hX,H,Ht,KK,hJ,hD⟩,nd,gs,hl⟩:=R;have hE:=H.ent k _ hk;obtain⟨e1,e2,e3,e4,e5,f,e6,e7,e8⟩:=hE
 let β':uW:=λj=>if j=k then(β k).take 1 else β j
 have hsub:∀j b n,(b,n)∈β' j->(b,n)∈β j:=λj b n hm=>by
  dsimp only[β']at hm;split at hm
  ·rename_i e;subst e;exact zZl hm
  ·exact hm
 have hDs:∀b,xO X β' b->xO X β b:=λb hd=>hd.imp id λ⟨j,n,hm⟩=>⟨j,n,hsub j b n hm⟩
 have hh':∀j,j≠k->zC ((k,.arr sz xs false)::h) j=zC h j:=λj hj=>by rw[xG,zX2 hj]
 have hhk:zC ((k,.arr sz xs false)::h) k=some (.arr sz xs false):=by rw[xG,zX3 Z]
 have hβ':∀j,j≠k->β' j=β j:=λj hj=>by dsimp only[β'];rw[zX2 hj]
 have hβk:β' k=(β k).take 1:=by dsimp only[β'];rw[zX3 Z]
 have whole:∀c,yB w (xO X β) (zC h) β (.ref k 0 xs.length) c->yB w (xO X β') (zC ((k,.arr sz xs false)::h)) β' (.ref k 0 xs.length) c:=λc hc=>by
  generalize hn:xs.length=n at hc
  cases hc with
  |fz _ _ hf=>cases hf
  |dref _ _ _ _ hd _=>exact absurd hd (nd k)
  | ref _ _ _ sz' xs' st' b n' cap hk2 hb hn' hc' hs'=>
   rw[hk]at hk2;cases hk2;refine .ref k 0 n sz xs false b n' cap hhk ?_ hn' hc' hs';rw[hβk]
   cases hbk:β k with
   |nil=>rw[hbk]at hb;simp at hb
   |cons p r=>
    rw[hbk]at hb;obtain⟨b0,n0⟩:=p;obtain⟨_,_,g3⟩:=e5 b0 n0 r hbk
    rcases zZg.1 hb with h1|h1
    ·rw[h1];simp
    ·exfalso;have:=g3 b n' h1;omega
  |ref0 _ _ sz' xs' st' ad hk2 hn'=>exact .ref0 k 0 sz xs false ad hhk (zYl _)
 have slot:∀t,yB w (xO X β') (zC ((k,.arr sz xs false)::h)) β' (zG tm t) (a.eval (.tmp t)):=λt=>by
  by_cases hw:t∈ws
  ·obtain⟨i,hi⟩:=yBx hw;have e:=zY3 (·[i]?) hws;simp only[zX8,hi,Option.map_some,zZh]at e;have:=Ht t;dsimp only at this;rw[e]at this⊢;exact whole _ this
  ·refine(Ht t).offK k hDs hh' hβ' ?_;dsimp only;intro hm
   have key:∀(l:List (Nat×AV)),l.all (λp=>ws.contains p.1|| !p.2.refs.contains k)=true->k∈(zG l t).refs->False:=λl=>by
    induction l with
    |nil=>intro _ hm;simp[zG,AV.refs]at hm
    | cons p r ih=>
     obtain⟨j,v⟩:=p;intro hl hm;rw[yP]at hm;simp only[yD4,zYg]at hl;split at hm
     ·rename_i e;subst e;have h1:=hl.1;simp only[yAo,yA8,yAn,yCk]at h1
      rcases h1 with h1|h1
      ·exact hw h1
      ·exact h1 (by simpa using hm)
     ·exact ih hl.2 hm
   exact key tm htm hm
 have H':jK X (zC ((k,.arr sz xs false)::h)) β' w:=by
  refine⟨λj e he=>?_,λj hj=>?_,λj j' b n n' h1 h2=>H.disj j j' b n n' (hsub _ _ _ h1) (hsub _ _ _ h2),λj b n hm=>H.free j b n (hsub _ _ _ hm),λb hd=>H.lt b (hDs b hd)⟩
  ·by_cases hj:j=k
   ·subst hj;rw[hhk]at he;cases he;refine⟨e1,e2,λhx=>?_,e4,λb n r hr=>?_,f,.ofF λi x l v hx hv=>(e6.toF Z i x l v hx hv).less hDs,e7,λb n hm=>e8 b n (hsub _ _ _ hm)⟩
    ·rw[hβk];have:=e3 hx
     cases hbk:β j with
     |nil=>exact absurd hbk this
     |cons p r=>simp
    ·rw[hβk]at hr
     cases hbk:β j with
     |nil=>rw[hbk]at hr;simp at hr
     |cons p r'=>
      rw[hbk]at hr;simp only[yDe,yA9,List.cons.injEq]at hr;obtain⟨hp,hr⟩:=hr;subst hr;rw[hp]at hbk;obtain⟨g1,_,_⟩:=e5 b n r' hbk;exact⟨g1,λ_ b' n' hm=>by simp at hm,λb' n' hm=>by simp at hm⟩
   ·rw[hh' j hj]at he;have hE:=H.ent j e he
    cases e with
    |dead=>exact absurd he (nd j)
    |box cs=>
     obtain⟨b,c,el,g1,g2,g3,g4,g5⟩:=hE;refine⟨b,c,el,by rw[hβ' j hj];exact g1,g2,g3,g4,λi v hv=>(g5 i v hv).offK k hDs hh' hβ' λhm=>?_⟩;obtain⟨p,hp,hpe⟩:=cL he;have:=zYi.1 hbx p hp;rw[hpe]at this;have hmm:=wU hv hm;simp only[zOo,yAn,yCk]at this;exact this (by simpa using hmm)
    |obj cs=>
     exact⟨by rw[hβ' j hj];exact hE.1,hE.2⟩
    | arr sz' xs' st'=>
     obtain⟨g1,g2,g3,g4,g5,f',g6,g7,g8⟩:=hE;refine⟨g1,g2,by rw[hβ' j hj];exact g3,g4,by rw[hβ' j hj];exact g5,f',λi x l v hx hv=>?_,g7,by rw[hβ' j hj];exact g8⟩
     cases hn:st'.nest with
     |false=>exact⟨.fz _ _ ((g6.toF hn i x l v hx hv).less hDs),λ_=>(g6.toF hn i x l v hx hv).less hDs⟩
     |true=>
      refine⟨(g6.toV i x l v hx hv).offK k hDs hh' hβ' λhm=>?_,λh0=>by cases h0⟩;obtain⟨p,hp,hpe⟩:=cL he;have:=zYi.1 hbx p hp;rw[hpe]at this;simp only[zOo,hn,zZo]at this;have hmm:=wU hx (VF hv hm);simp only[yAn,yCk]at this;exact this (by simpa using hmm)
  ·rw[xG]at hj;split at hj
   ·cases hj
   ·rename_i hne;rw[hβ' j hne];exact H.off j hj
 have hkF:∀b n,(b,n)∉F.β0 k:=λb n hm=>by
  have:=F.hK k b n hm;simp only[yCk]at hK0;exact hK0 zC9
 refine⟨⟨X,β',hX,H',slot,⟨λj e he=>?_,KK.size,KK.keep,λj b n hm=>KK.own j b n (hsub _ _ _ hm),λj b n hm=>?_,KK.bs,KK.os,KK.tape,KK.output⟩,λi hi=>?_,hD⟩,λj=>?_,gs,hl⟩
 ·have hj:j≠k:=λe'=>by
   subst e';have:=F.hh j e he;simp only[yCk]at hK0;exact hK0 zC9
  have:=KK.knd j e he
  cases e with
  |dead=>exact this
  |box cs=>obtain⟨cs',h2⟩:=this;exact⟨cs',by dsimp only;rw[hh' j hj];exact h2⟩
  |obj cs=>obtain⟨cs',h2⟩:=this;exact⟨cs',by dsimp only;rw[hh' j hj];exact h2⟩
  |arr sz' xs' sl'=>obtain⟨xs2,sl2,h2,h3⟩:=this;exact⟨xs2,sl2,by dsimp only;rw[hh' j hj];exact h2,h3⟩
 ·have hj:j≠k:=λe'=>by subst e';exact hkF b n hm
  rw[hβ' j hj];exact KK.pas j b n hm
 ·exact F.Jst i _ X w w _ (hJ i hi) (zX7 _) (λ_ _ _=>rfl) (λb ⟨j,n,hm⟩=> .inl ⟨j,n,hsub _ _ _ hm⟩) (λb ⟨j,n,hm⟩=>H.lt b (.inr ⟨j,n,hsub _ _ _ hm⟩)) Z Z Z
 ·dsimp only;by_cases hj:j=k
  ·subst hj;rw[hhk];intro hd;cases hd
  ·rw[hh' j hj];exact nd j
theorem wN.flag {a:Act} {w:World} (R:wN F m ⟨tm,h⟩ a w) (k:Nat) {sz:Nat} {xs:List AV} {st:Fl} (fl:Fl) (q1:fl.stale=false->st.stale=false) (q2:fl.nest=false->st.nest=false) (hk:zC h k=some (.arr sz xs st)):wN F m ⟨tm,(k,.arr sz xs fl)::h⟩ a w:=by
 obtain⟨⟨X,β,hX,H,Ht,KK,hJ,hD⟩,nd,gs,hl⟩:=R;have hh':∀j,j≠k->zC ((k,.arr sz xs fl)::h) j=zC h j:=λj hj=>by rw[xG,zX2 hj]
 have hhk:zC ((k,.arr sz xs fl)::h) k=some (.arr sz xs fl):=by rw[xG,zX3 Z]
 have E:GM w (xO X β) (zC h) β w (xO X β) (zC ((k,.arr sz xs fl)::h)) β:=⟨zX7 _,λb _ hd=>⟨rfl,hd⟩,λ_ _ _ _=>rfl,λj e he=>by
  by_cases hj:j=k
  ·subst hj;rw[hk]at he;cases he;exact .inr ⟨⟨xs,fl,hhk,zX7 _⟩,λb n hm=>⟨n,zX7 _,hm⟩⟩
  ·have:=kU (zC h) β j e he
   rcases this with h1|h1
   ·exact .inl (by rw[hh' j hj];exact h1)
   ·refine .inr ?_
    cases e with
    |dead=>exact h1
    |box cs=>obtain⟨⟨cs',h2⟩,h3⟩:=h1;exact⟨⟨cs',by rw[hh' j hj];exact h2⟩,h3⟩
    |obj cs=>obtain⟨⟨cs',h2⟩,h3⟩:=h1;exact⟨⟨cs',by rw[hh' j hj];exact h2⟩,h3⟩
    |arr sz' xs' st'=>obtain⟨⟨x2,s2,h2,h3⟩,h4⟩:=h1;exact⟨⟨x2,s2,by rw[hh' j hj];exact h2,h3⟩,h4⟩⟩
 have H':jK X (zC ((k,.arr sz xs fl)::h)) β w:=by
  refine⟨λj e he=>?_,λj hj=>?_,H.disj,H.free,H.lt⟩
  ·by_cases hj:j=k
   ·subst hj;rw[hhk]at he;cases he;obtain⟨e1,e2,e3,e4,e5,f,e6,e7⟩:=H.ent j _ hk;exact⟨e1,e2,e3,e4,λb n r hr=>⟨(e5 b n r hr).1,λh=>(e5 b n r hr).2.1 (q1 h),(e5 b n r hr).2.2⟩,f,λi x l v hx hv=>⟨(e6.toV i x l v hx hv).evo E,λh=>(e6.toF (q2 h) i x l v hx hv).evo E.size E.fz⟩,e7⟩
   ·rw[hh' j hj]at he;exact(H.ent j e he).evo E Z λ_ _ _=>rfl
  ·rw[xG]at hj;split at hj
   ·cases hj
   ·exact H.off j hj
 refine⟨⟨X,β,hX,H',λt=>(Ht t).evo E,⟨λj e he=>?_,KK.size,KK.keep,KK.own,KK.pas,KK.bs,KK.os,KK.tape,KK.output⟩,hJ,hD⟩,λj=>?_,gs,hl⟩
 ·have:=KK.knd j e he;by_cases hj:j=k
  ·subst hj
   cases e with
   |dead=>exact this
   |box cs=>obtain⟨cs',h2⟩:=this;(try dsimp only at h2);rw[hk]at h2;cases h2
   |obj cs=>obtain⟨cs',h2⟩:=this;(try dsimp only at h2);rw[hk]at h2;cases h2
   |arr sz' xs' sl'=>obtain⟨xs2,sl2,h2,h3⟩:=this;(try dsimp only at h2);rw[hk]at h2;cases h2;exact⟨xs,fl,hhk,h3⟩
  ·cases e with
   |dead=>exact this
   |box cs=>obtain⟨cs',h2⟩:=this;exact⟨cs',by dsimp only;rw[hh' j hj];exact h2⟩
   |obj cs=>obtain⟨cs',h2⟩:=this;exact⟨cs',by dsimp only;rw[hh' j hj];exact h2⟩
   |arr sz' xs' sl'=>obtain⟨xs2,sl2,h2,h3⟩:=this;exact⟨xs2,sl2,by dsimp only;rw[hh' j hj];exact h2,h3⟩
 ·dsimp only;by_cases hj:j=k
  ·subst hj;rw[hhk];intro hd;cases hd
  ·rw[hh' j hj];exact nd j
def qH {c:Code} {Q:Exit->St->Prop} (k:Nat) {sz:Nat} {xs:List AV} {sb:Bool} (hk:zC h k=some (.arr sz xs ⟨sb,false⟩)) (hs:uQ P F m c ⟨tm,(k,.arr sz xs true)::h⟩ Q):uQ P F m c ⟨tm,h⟩ Q:=
 ⟨λa w R=>hs.run a w (R.flag k true (λh=>by cases h) (λ_=>rfl) hk)⟩
def OO {c:Code} {Q:Exit->St->Prop} (k:Nat) {sz:Nat} {xs:List AV} {sb:Bool} (hk:zC h k=some (.arr sz xs ⟨sb,false⟩)) (hs:uQ P F m c ⟨tm,(k,.arr sz xs ⟨sb,true⟩)::h⟩ Q):uQ P F m c ⟨tm,h⟩ Q:=
 ⟨λa w R=>hs.run a w (R.flag (st:=⟨sb,false⟩) k ⟨sb,true⟩ (λh=>h) (λh=>Bool.noConfusion h) hk)⟩
theorem wN.wkT {a:Act} {w:World} (R:wN F m ⟨tm,h⟩ a w) (t:Nat) {v v':AV} (hv:zG tm t=v) (he:VE v=v') (hg:∀i,v'≠ .gh i):wN F m ⟨(t,v')::tm,h⟩ a w:=by
 obtain⟨⟨X,β,hX,H,Ht,KK,hJ,hD⟩,nd,gs,hl⟩:=R;refine⟨⟨X,β,hX,H,λj=>?_,KK,λi hi=>?_,hD⟩,nd,gs,hl⟩
 ·rw[yP];split
  ·rename_i hj;subst hj;have:=(Ht j).wk;dsimp only at this;rw[hv,he]at this;exact this
  ·exact Ht j
 ·rw[yP]at hi;split at hi
  ·exact absurd hi (hg i)
  ·exact hJ i hi
def DA {ops:Array Oper} {l:List Oper} {fs:List FP} {Q:List FP->St->Prop} (t:Nat) {v v':AV} (hv:zG tm t=v) (he:VE v=v') (hg:v'.isGh=false) (hk:yE P F m ops false l ⟨(t,v')::tm,h⟩ fs Q):yE P F m ops false l ⟨tm,h⟩ fs Q:=
 ⟨λa w R=>hk.run a w (R.wkT t hv he λi hi=>by rw[hi]at hg;cases hg)⟩
def RX {c:Code} {Q:Exit->St->Prop} (k:Nat) (ws:List Nat) {sz:Nat} {xs:List AV} {sb:Bool} (hk:zC h k=some (.arr sz xs ⟨sb,false⟩)) (hK0:K0.contains k=false) (hws:ws.map (zG tm)=ws.map λ_=> .ref k 0 xs.length)
  (htm:tm.all (λp=>ws.contains p.1|| !p.2.refs.contains k)=true) (hbx:h.all (λp=>zOo k p.2)=true) (hs:uQ P F m c ⟨tm,(k,.arr sz xs false)::h⟩ Q):uQ P F m c ⟨tm,h⟩ Q:=
 ⟨λa w R=>hs.run a w (R.compact k ws hk hK0 hws htm hbx)⟩
end
def p2 (n:Int):Int:=2 ^ n.toNat
def qG (m n:Int):Int:=m.fdiv (2 ^ n.toNat)
def zQv (n:Int) (h:n<=40):1<=p2 n/\p2 n<=1099511627776:=by
 unfold p2;have h1:(2:Int) ^ n.toNat=((2 ^ n.toNat:Nat):Int):=by simp
 have h2:2 ^ n.toNat<=2 ^ 40:=yCb (by omega) (by omega);have h3:0<2 ^ n.toNat:=Nat.two_pow_pos _;rw[h1];omega
section
variable {P:Program} {tm:List (Nat×AV)} {h:List (Nat×xN)} {tx ty:Nat} {x y:Operand}
def gR {k':IntKind} {n:Int} (hx:yM (zG tm) x= .s (.int .i64 1)) (hy:yM (zG tm) y= .s (.int k' n)) (h0:0<=n/\n<=40):wV P ⟨tm,h⟩ (.binOp .shl tx x y ty) (.s (.int .i64 (p2 n))) [] [] []:=by
 have e:IntKind.i64.wrap (1*2 ^ (min n.toNat IntKind.i64.bits))=p2 n:=by
  have hb:IntKind.i64.bits=64:=rfl;have h1:=zQv n h0.2;rw[hb,show min n.toNat 64=n.toNat by omega,Int.one_mul];exact kV (k:= .i64) ⟨by unfold p2 at h1;show -9223372036854775808<=_;omega,by unfold p2 at h1;show _<=9223372036854775807;omega⟩
 rw[<-e];exact wH (.inl ⟨rfl,rfl⟩) hx hy h0.1
def gS {k':IntKind} {m n:Int} (hx:yM (zG tm) x= .s (.int .i64 m)) (hy:yM (zG tm) y= .s (.int k' n)) (h0:0<=n/\n<=40):wV P ⟨tm,h⟩ (.binOp .shr tx x y ty) (.s (.int .i64 (qG m n))) [] [] []:=by
 have hb:IntKind.i64.bits=64:=rfl;refine wH (.inr ⟨rfl,?_⟩) hx hy h0.1;rw[hb,show min n.toNat 64=n.toNat by omega];rfl
end
end Av
end Go.Proofs.YteajjdidebfcjaaGreat
