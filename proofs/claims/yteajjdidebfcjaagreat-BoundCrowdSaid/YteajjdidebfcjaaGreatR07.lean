/- Part 7. -/
import Derived.Test.YteajjdidebfcjaaGreatProg
import Derived.Test.YteajjdidebfcjaaGreatR06
namespace Go.Proofs.YteajjdidebfcjaaGreat
namespace Av
set_option linter.all false
abbrev zFN:TI:=⟨.func,1,8,[.nilFunc]⟩
abbrev zPT (n:Nat):TI:=⟨.ptr n,1,8,[.pointer none]⟩
abbrev zSL (n:Nat):TI:=⟨.slice n,1,24,[.slice none 0 0]⟩
abbrev zNL:Value:= .slice none 0 0
abbrev zZI:Value:= .int .i64 0
abbrev zTA:TI:=⟨.str [(0,3),(1,3),(2,3),(3,3),(4,3)],5,40,[zZI,zZI,zZI,zZI,zZI]⟩
abbrev zTB:TI:=⟨.int .u8,1,1,[.int .u8 0]⟩
abbrev zTC:TI:=⟨.other,1,0,[.tuple #[zNL,zZI]]⟩
abbrev zTD:TI:=⟨.str [(0,3),(1,3),(2,3)],3,24,[zZI,zZI,zZI]⟩
abbrev zTE:TI:=⟨.str [(0,3),(1,3)],2,16,[zZI,zZI]⟩
abbrev zTF:TI:=⟨.int .i64,1,8,[zZI]⟩
abbrev zTG:TI:=⟨.string,1,16,[.string ⟨#[]⟩]⟩
abbrev zTH:TI:=⟨.int .u64,1,8,[.int .u64 0]⟩
abbrev zTI:TI:=⟨.int .i32,1,4,[.int .i32 0]⟩
abbrev zTJ:TI:=⟨.str [(0,2),(1,3),(2,4),(3,6)],4,24,[zZI,zZI,.bool false,.int .u8 0]⟩
abbrev zTK:TI:=⟨.str [(0,9),(1,12)],2,24,[.string ⟨#[]⟩,.int .u64 0]⟩
abbrev zTL:TI:=⟨.str [(0,17)],1,8,[.pointer none]⟩
abbrev zTM:TI:=⟨.str [(0,27),(1,28),(2,3),(3,3),(4,3),(5,3)],6,80,[zNL,zNL,zZI,zZI,zZI,zZI]⟩
abbrev zTN:TI:=⟨.str [(0,32),(1,3),(2,3),(3,22),(4,3),(5,3),(6,3),(7,3)],8,96,[zNL,zZI,zZI,zNL,zZI,zZI,zZI,zZI]⟩
abbrev zTO:TI:=⟨.str [(0,3),(1,3),(2,3),(3,3),(4,32)],5,56,[zZI,zZI,zZI,zZI,zNL]⟩
abbrev zTP:TI:=⟨.str [(0,3),(1,32),(2,22),(3,32)],4,80,[zZI,zNL,zNL,zNL]⟩
abbrev zTQ:TI:=⟨.str [(0,43),(1,22),(2,3)],3,56,[zNL,zNL,zZI]⟩
abbrev zTR:TI:=⟨.other,1,0,[.tuple #[zNL,.bool false]]⟩
abbrev zTS:TI:=⟨.str [(0,67),(1,32)],2,48,[zNL,zNL]⟩
abbrev zTT:TI:=⟨.str [(0,3),(1,3),(2,3),(3,3),(4,3),(5,3),(6,3),(7,3)],8,64,[zZI,zZI,zZI,zZI,zZI,zZI,zZI,zZI]⟩
abbrev zTU:TI:=⟨.str [(0,22),(1,3)],2,32,[zNL,zZI]⟩
abbrev zTV:TI:=⟨.str [(0,30),(6,4),(7,3),(8,87),(9,88),(10,89),(11,22),(12,76)],13,216,[zNL,zNL,zZI,zZI,zZI,zZI,.bool false,zZI,zNL,zNL,zNL,zNL,zNL]⟩
abbrev zTW:TI:=⟨.str [(0,91),(13,92)],14,240,[zNL,zNL,zZI,zZI,zZI,zZI,.bool false,zZI,zNL,zNL,zNL,zNL,zNL,zNL]⟩
abbrev zTX:TI:=⟨.str [(0,3),(1,3),(2,3),(3,3)],4,32,[zZI,zZI,zZI,zZI]⟩
abbrev zTY:TI:=⟨.str [(0,3),(1,34),(9,108),(10,109),(11,111)],14,176,[zZI,zNL,zZI,zZI,zNL,zZI,zZI,zZI,zZI,zNL,zNL,zZI,zZI,zZI]⟩
abbrev zTZ:TI:=⟨.str [(0,113),(14,114),(15,67),(16,115)],17,248,[zZI,zNL,zZI,zZI,zNL,zZI,zZI,zZI,zZI,zNL,zNL,zZI,zZI,zZI,zNL,zNL,zNL]⟩
abbrev zUA:TI:=⟨.str [(0,117),(17,92)],18,272,[zZI,zNL,zZI,zZI,zNL,zZI,zZI,zZI,zZI,zNL,zNL,zZI,zZI,zZI,zNL,zNL,zNL,zNL]⟩
abbrev zUB:TI:=⟨.other,1,0,[.tuple #[zZI,zZI]]⟩
abbrev zUC:TI:=⟨.str [(0,32),(1,4)],2,32,[zNL,.bool false]⟩
abbrev zUD:TI:=⟨.str [(0,4),(1,4),(2,127)],4,40,[.bool false,.bool false,zNL,.bool false]⟩
abbrev zUE:TI:=⟨.str [(0,62),(1,3),(2,32)],3,40,[zZI,zZI,zNL]⟩
abbrev zUF:TI:=⟨.str [(0,3),(1,3),(2,139)],5,56,[zZI,zZI,zZI,zZI,zNL]⟩
abbrev zUG:TI:=⟨.str [(0,4),(1,4),(2,22),(3,22)],4,56,[.bool false,.bool false,zNL,zNL]⟩
abbrev zUH:TI:=⟨.str [(0,3),(1,3),(2,3),(3,3),(4,170)],5,56,[zZI,zZI,zZI,zZI,zNL]⟩
abbrev zUI:TI:=⟨.str [(0,4),(1,71)],2,32,[.bool false,zNL]⟩
abbrev zUJ:TI:=⟨.str [(0,3),(1,3),(2,3),(3,3),(4,3),(5,3)],6,48,[zZI,zZI,zZI,zZI,zZI,zZI]⟩
abbrev zUK:TI:=⟨.str [(0,211),(1,3),(2,22),(3,3)],4,64,[zNL,zZI,zNL,zZI]⟩
abbrev zUL:TI:=⟨.str [(0,213),(4,4)],5,72,[zNL,zZI,zNL,zZI,.bool false]⟩
abbrev zUM:TI:=⟨.str [(0,3),(1,3),(2,22)],3,40,[zZI,zZI,zNL]⟩
abbrev zUN:TI:=⟨.str [(0,186),(1,191)],2,48,[zNL,zNL]⟩
abbrev zUO:TI:=⟨.str [(0,3),(1,3),(2,62)],3,24,[zZI,zZI,zZI]⟩
abbrev zUP:TI:=⟨.str [(0,4),(1,32),(2,3),(3,3),(4,3),(5,3)],6,64,[.bool false,zNL,zZI,zZI,zZI,zZI]⟩
abbrev zUQ:TI:=⟨.str [(0,17),(1,17),(2,17),(3,9)],4,40,[.pointer none,.pointer none,.pointer none,.string ⟨#[]⟩]⟩
abbrev zUR:TI:=⟨.str [(0,408)],0,0,[]⟩
abbrev zUS:TI:=⟨.str [(0,12),(1,12),(2,133),(3,412),(4,5),(5,5),(6,413),(7,414),(8,415),(9,416),(10,417)],11,48,[.int .u64 0,.int .u64 0,.int .u32 0,.int .u8 0,.int .u8 0,.int .u8 0,.int .u8 0,.nilFunc,.pointer none,.int .i32 0,.int .i32 0]⟩
def TT:List TI:=[⟨.other,1,0,[.tuple #[]]⟩,zFN,zTF,zTF,⟨.bool,1,1,[.bool false]⟩,zTB,zTB,zTJ,zTJ,zTG,zTG,zTG,zTH,zTK,zTK,zPT 407,zPT 410,zPT 419,zTL,zTL,⟨.other,1,16,[.nilIface]⟩,zTI,zSL 3,zFN,zFN,zPT 84,zFN,zSL 45,zSL 34,zTM,zTM,zFN,zSL 5,zTN,zTN,zSL 37,zTO,zTO,zTP,zTP,zFN,zFN,zFN,zSL 81,zTQ,zTQ,zFN,zFN,zFN,zFN,zSL 78,zFN,zSL 76,zFN,zSL 67,zTR,zFN,zFN,zFN,zFN,zFN,zFN,zTF,zTC,zFN,zFN,zFN,zSL 32,zFN,zFN,zFN,zSL 139,zFN,zFN,zFN,zFN,zSL 150,zTS,zTS,zFN,zTT,zTT,zFN,zTU,zTU,zFN,zFN,zSL 117,zSL 215,zSL 218,zTV,zTV,zSL 129,zTW,zTW,zFN,⟨.other,1,8,[.map none]⟩,⟨.other,1,0,[.tuple #[.agg #[zNL,zNL,zZI,zZI,zZI,zZI,.bool false,zZI,zNL,zNL,zNL,zNL,zNL,zNL],.agg #[zNL,zNL],.bool false]]⟩,zFN,zFN,zSL 103,zFN,zTX,zTX,zFN,zFN,zFN,zFN,zSL 279,zSL 313,zTD,zTD,zTY,zTY,zSL 172,zSL 4,zTZ,zTZ,zFN,zUA,zUA,zFN,zFN,zFN,zUB,zFN,zUC,zUC,zUD,zUD,zFN,zFN,zTH,⟨.int .u32,1,4,[.int .u32 0]⟩,zFN,zFN,zFN,zFN,zUE,zUE,zUF,zUF,⟨.other,1,0,[.tuple #[.agg #[zZI,zNL,zNL,zNL],zZI]]⟩,zFN,⟨.arr 4 5,4,4,[.int .u8 0,.int .u8 0,.int .u8 0,.int .u8 0]⟩,zTR,zFN,⟨.other,1,0,[.tuple #[.agg #[zNL,.bool false],zNL]]⟩,zFN,zUG,zUG,zFN,zFN,zSL 155,zFN,⟨.arr 2 3,2,16,[zZI,zZI]⟩,zFN,zFN,zFN,zFN,zFN,zFN,⟨.other,1,0,[.tuple #[.agg #[zNL,zNL,zZI,zZI,zZI,zZI,.bool false,zZI,zNL,zNL,zNL,zNL,zNL,zNL],.agg #[zNL,zNL]]]⟩,zFN,zFN,zSL 167,zTA,zTA,zFN,zFN,zSL 174,zUH,zUH,zTA,zTA,zFN,zTH,zFN,zFN,zFN,zPT 120,zSL 183,zUI,zUI,⟨.other,1,0,[.tuple #[.agg #[.bool false,.bool false,zNL,.bool false],.agg #[.bool false,zNL]]]⟩,zFN,zSL 191,zSL 238,⟨.other,1,0,[.tuple #[.agg #[zZI,zNL,zZI,zZI,zNL,zZI,zZI,zZI,zZI,zNL,zNL,zZI,zZI,zZI,zNL,zNL,zNL],zNL,zNL,zNL]]⟩,zFN,zFN,zSL 39,zFN,zFN,zFN,zFN,⟨.other,1,0,[.tuple #[.agg #[zZI,zZI,zNL],zZI,.bool false]]⟩,zFN,
 zUJ,zUJ,⟨.other,1,0,[.tuple #[.agg #[zZI,zZI,zZI,zZI,zZI,zZI],.bool false]]⟩,zFN,⟨.other,1,0,[.tuple #[zNL,zNL,.bool false]]⟩,zFN,zTA,zTA,zFN,zFN,zFN,zFN,zFN,zSL 253,zUK,zUK,zUL,zUL,zFN,zUM,zUM,zFN,zFN,zFN,⟨.other,1,0,[.tuple #[.agg #[zNL,.bool false],.bool false]]⟩,zFN,zPT 117,zUN,zUN,⟨.other,1,0,[.tuple #[.agg #[zNL,zNL,zZI,zZI,zZI,zZI,.bool false,zZI,zNL,zNL,zNL,zNL,zNL],.agg #[zNL,zNL]]]⟩,zFN,zFN,zFN,zFN,zFN,zFN,zFN,zFN,zFN,zUO,zUO,⟨.other,1,0,[.tuple #[.agg #[zZI,zNL,zZI,zZI,zNL,zZI,zZI,zZI,zZI,zNL,zNL,zZI,zZI,zZI,zNL,zNL,zNL],.agg #[zZI,zNL,zNL,zNL],.agg #[zZI,zZI,zZI],zZI]]⟩,zFN,zFN,zFN,zFN,zFN,zFN,⟨.other,1,0,[.tuple #[zZI,zZI,zZI]]⟩,zFN,zFN,zFN,zFN,zFN,zTE,zTE,zFN,zFN,zFN,zFN,zFN,zFN,zFN,zSL 186,⟨.other,1,0,[.tuple #[zNL,zNL,zNL]]⟩,zFN,⟨.other,1,0,[.tuple #[.agg #[zNL,zZI,zNL,zZI,.bool false],.bool false]]⟩,zFN,zFN,zPT 91,zFN,zFN,zFN,zTD,zTD,zFN,zFN,zFN,zFN,zFN,zUP,zUP,zFN,zFN,zFN,zFN,zFN,zFN,zFN,⟨.other,1,0,[.tuple #[.agg #[zZI,zNL,zZI,zZI,zNL,zZI,zZI,zZI,zZI,zNL,zNL,zZI,zZI,zZI,zNL,zNL,zNL],.agg #[zZI,zNL,zNL,zNL],zZI,zZI]]⟩,zFN,zFN,zFN,zFN,zFN,zFN,zFN,⟨.other,1,0,[.tuple #[zZI,.bool false]]⟩,zFN,zFN,zFN,zPT 213,zFN,zFN,⟨.other,1,0,[.tuple #[.agg #[zNL,zZI,zNL,zZI,.bool false],.agg #[zZI,zZI,zNL]]]⟩,zFN,zFN,zFN,zFN,zFN,zFN,zFN,zFN,zFN,zTE,zTE,⟨.other,1,0,[.tuple #[.agg #[zZI,zNL,zZI,zZI,zNL,zZI,zZI,zZI,zZI,zNL,zNL,zZI,zZI,zZI],zZI,zZI]]⟩,zFN,⟨.other,1,0,[.tuple #[.agg #[zZI,zNL,zZI,zZI,zNL,zZI,zZI,zZI,zZI,zNL,zNL,zZI,zZI,zZI,zNL,zNL,zNL],.agg #[zZI,zNL,zNL,zNL],zZI]]⟩,zFN,zTC,zFN,zFN,zFN,zFN,zFN,zFN,zFN,zFN,zFN,zFN,zFN,zFN,zFN,zFN,zFN,zUB,zFN,⟨.other,1,0,[.tuple #[.agg #[zZI,zZI,zZI],.bool false]]⟩,zFN,
 ⟨.other,1,0,[.tuple #[.agg #[zZI,zNL,zZI,zZI,zNL,zZI,zZI,zZI,zZI,zNL,zNL,zZI,zZI,zZI],.agg #[zZI,zNL,zNL,zNL],.bool false,zZI]]⟩,zFN,zFN,zFN,zFN,zFN,zFN,zFN,zFN,zFN,zFN,zFN,zFN,zFN,zFN,zPT 113,zTC,zFN,zFN,zTC,zFN,zFN,⟨.other,1,0,[.tuple #[.agg #[zZI,zZI],.bool false]]⟩,zFN,⟨.other,1,0,[.tuple #[.agg #[zZI,zZI,zZI,zZI,zZI],zZI]]⟩,zFN,zFN,zFN,zFN,zFN,zFN,zFN,zFN,zFN,zFN,zFN,zFN,⟨.other,1,0,[.tuple #[zNL,zZI,zZI]]⟩,zFN,zFN,zFN,zFN,zFN,zFN,zFN,zFN,zFN,zFN,zFN,zFN,zFN,zFN,zFN,zFN,zFN,zFN,zFN,zFN,zSL 109,zFN,zFN,zFN,zFN,zFN,zFN,zFN,zFN,zFN,zUQ,zUQ,⟨.arr 0 16,0,0,[]⟩,zUR,zUR,zFN,zTB,zTB,zFN,zPT 5,zTI,zTI,zUS,zUS,⟨.other,1,8,[.pointer none]⟩]
def tok:uI Tryz.prog TT:=zAv SU
section
variable {P:Program} {TT:List TI} {K0:List Nat} {F:Fr K0} {m:Nat} {ops:Array Oper} {rest:List Oper} {Q:List FP->St->Prop} {tm:List (Nat×AV)} {h:List (Nat×xN)} {dr:Bool} {fs:List FP}
variable {ty:Nat} {pos:String} {after:Array Edge} {t:Nat}
def zAu {h:List (Nat×xN)} {t:Nat} (hn:(zC h t).isNone=true): [t].all (λj=>(zC h j).isNone)=true:=by simpa using hn
def IP (hP:uI P TT) {T i:Nat} {x:Operand} {xs cs:List AV} {ti:TI} (hx:yJ (zG tm) x= .fp xs i 0) (hT:TT[T]? =some ti) (ha:ti.d.agg=true) (hy:xs[i]? =some (.agg cs)) (hs:Nat.beq ti.size cs.length=true):
  wM P ⟨tm,h⟩ (.load T x) (.agg cs) [] [] []:=by
 have e:=yA2 hs;refine aI hP hx hy hT ?_;unfold ldv;rw[ha,e];simp[AV.cells,yDr (yAb cs.length)]
def IQ (hP:uI P TT) {T i off:Nat} {x:Operand} {xs:List AV} {y v:AV} {ti:TI} (hx:yJ (zG tm) x= .fp xs i off) (hT:TT[T]? =some ti) (ha:ti.d.agg=false) (hy:xs[i]? =some y) (hv:y.cells[off]? =some v):
  wM P ⟨tm,h⟩ (.load T x) v [] [] []:=by
 refine aI hP hx hy hT ?_;unfold ldv;rw[ha];exact hv
def NX (hP:uI P TT) {T k i sz:Nat} {x:Operand} {xs cs:List AV} {sl:Fl} {ti:TI} (hx:yJ (zG tm) x= .ptr k i 0) (hk:zC h k=some (.arr sz xs sl)) (hT:TT[T]? =some ti) (ha:ti.d.agg=true) (hy:xs[i]? =some (.agg cs)) (hs:Nat.beq ti.size cs.length=true):
  wM P ⟨tm,h⟩ (.load T x) (.agg cs) [] [k] []:=by
 have e:=yA2 hs;refine fG hP hx hk hy hT ?_;unfold ldv;rw[ha,e];simp[AV.cells,yDr (yAb cs.length)]
def NY (hP:uI P TT) {T k i off sz:Nat} {x:Operand} {xs:List AV} {sl:Fl} {y v:AV} {ti:TI} (hx:yJ (zG tm) x= .ptr k i off) (hk:zC h k=some (.arr sz xs sl)) (hT:TT[T]? =some ti) (ha:ti.d.agg=false) (hy:xs[i]? =some y) (hv:y.cells[off]? =some v):
  wM P ⟨tm,h⟩ (.load T x) v [] [k] []:=by
 refine fG hP hx hk hy hT ?_;unfold ldv;rw[ha];exact hv
def gL (hP:uI P TT) {T e:Nat} {s x:Operand} {ti te:TI} {xv:AV} {ys:List AV} (hs:yJ (zG tm) s= .s (.slice none 0 0)) (hx:yJ (zG tm) x=xv) (hT:TT[T]? =some ti) (hd:ti.d= .slice e) (he:TT[e]? =some te)
  (hys:els (zC h) xv=some ys) (hsz:∀y,ys[0]? =some y->y.cells.length=te.size) (hp:Nat.ble 1 te.size=true) (hb:Nat.ble te.bytes 65536=true) (hz:Nat.beq te.zero.length te.size=true) (hn:ys.length<=1073741824) (hm:Nat.blt t m=true) (hnn:(zC h t).isNone=true)
  {sz:Nat} (hse:te.size=sz) (hk:zX P F m ops dr rest ⟨(t,.ref t 0 ys.length)::tm,(t,.arr sz ys false)::h⟩ (⟨true,[t,t],PY xv⟩::fs) Q) (hz1:te.zero.all (·.oneCell')=true:=by rfl):zX P F m ops dr (⟨some t,.call ⟨.builtin .append, #[s,x], #[T,T]⟩,ty,pos,after,none⟩::rest) ⟨tm,h⟩ fs Q:=by
 subst hse;exact uS (nw:=[t]) (aH hP t hs hx hT hd he hys hsz hp hb hz hz1 hn) hm (zAu hnn) Z hk
def zLh (hP:uI P TT) {T e n:Nat} {x y:Operand} {ti te:TI} {kx ky:IntKind} {nx ny:Int} {z:AV} (hx:yJ (zG tm) x= .s (.int kx nx)) (hy:yJ (zG tm) y= .s (.int ky ny)) (hT:TT[T]? =some ti) (hd:ti.d= .slice e) (he:TT[e]? =some te)
  (hb:Nat.ble te.bytes 65536=true) (hp:Nat.ble 1 te.size=true) (hzl:Nat.beq te.zero.length te.size=true) (hz1:te.zero.all (·.oneCell')=true) (hzc:Nat.beq (vU te).cells.length te.size=true) (hzc2:(vU te).cells=te.zero.map .s) (hz:vU te=z)
  (hnx:nx=(n:Int)) (hny:nx<=ny) (hmax:ny<=1073741824) (hm:Nat.blt t m=true) (hnn:(zC h t).isNone=true)
  {sz:Nat} (hse:te.size=sz) (hk:zX P F m ops dr rest ⟨(t,.ref t 0 n)::tm,(t,.arr sz (List.replicate n z) false)::h⟩ (⟨true,[t,t],[]⟩::fs) Q):zX P F m ops dr (⟨some t,.makeSlice T x y,ty,pos,after,none⟩::rest) ⟨tm,h⟩ fs Q:=by
 subst hse hz;exact uS (nw:=[t]) (ZV hP t hx hy hT hd he hnx hny hmax hb hp hzl hz1 hzc hzc2) hm (zAu hnn) Z hk
def aE (hP:uI P TT) {T e:Nat} {s x:Operand} {ti te:TI} {k sz len:Nat} {xs:List AV} {sb:Bool} {xv:AV} {ys:List AV} (hs:yJ (zG tm) s= .ref k 0 len) (hk:zC h k=some (.arr sz xs ⟨sb,false⟩)) (hx:yJ (zG tm) x=xv) (hT:TT[T]? =some ti) (hd:ti.d= .slice e) (he:TT[e]? =some te)
  (hys:els (zC h) xv=some ys) (hss:Nat.beq sz te.size=true) (hb:Nat.ble te.bytes 65536=true) (hz:Nat.beq te.zero.length te.size=true) (hlen:len=xs.length) (hsz:∀y,ys[0]? =some y->y.cells.length=sz) (hn:xs.length+ys.length<=1073741824) (hm:Nat.blt t m=true)
  (hr:zX P F m ops dr rest ⟨(t,.ref k 0 (xs++ys).length)::tm,(k,.arr sz (xs++ys) true)::h⟩ (⟨true,[k],k::PY xv⟩::fs) Q) (hz1:te.zero.all (·.oneCell')=true:=by rfl):zX P F m ops dr (⟨some t,.call ⟨.builtin .append, #[s,x], #[T,T]⟩,ty,pos,after,none⟩::rest) ⟨tm,h⟩ fs Q:=by
 subst hlen;exact uS (nw:=[]) (PZ hP hs hk hx hT hd he hys hsz hss hb hz hz1 hn) hm Z Z hr
def qL (hP:uI P TT) {T e:Nat} {s x:Operand} {ti te:TI} {k sz len:Nat} {xs:List AV} {sl:Fl} {xv:AV} {ys:List AV} (hs:yJ (zG tm) s= .ref k 0 len) (hk:zC h k=some (.arr sz xs sl)) (hx:yJ (zG tm) x=xv) (hT:TT[T]? =some ti) (hd:ti.d= .slice e) (he:TT[e]? =some te)
  (hys:VI true (zC h) xv=some ys) (hss:Nat.beq sz te.size=true) (hb:Nat.ble te.bytes 65536=true) (hz:Nat.beq te.zero.length te.size=true) (hlen:len=xs.length) (hsz:∀y,ys[0]? =some y->y.cells.length=sz) (hn:xs.length+ys.length<=1073741824) (hm:Nat.blt t m=true)
  (hr:zX P F m ops dr rest ⟨(t,.ref k 0 (xs++ys).length)::tm,(k,.arr sz (xs++ys) ⟨true,true⟩)::h⟩ (⟨true,[k],k::PY xv⟩::fs) Q) (hz1:te.zero.all (·.oneCell')=true:=by rfl):zX P F m ops dr (⟨some t,.call ⟨.builtin .append, #[s,x], #[T,T]⟩,ty,pos,after,none⟩::rest) ⟨tm,h⟩ fs Q:=by
 subst hlen;exact uS (nw:=[]) (ST hP hs hk hx hT hd he hys hsz hss hb hz hz1 hn) hm Z Z hr
section
variable {op:BinOp} {tx t2:Nat} {x y:Operand} {k:IntKind} {a b:Int} (hx:yJ (zG tm) x= .s (.int k a)) (hy:yJ (zG tm) y= .s (.int k b))
include hx hy
def zLi (hh:a<b):wM P ⟨tm,h⟩ (.binOp .lss tx x y t2) (.s (.bool true)) [] [] []:=by have:=HF (P:=P) (st:=⟨tm,h⟩) (tx:=tx) (ty:=t2) hx hy;rwa [yAe hh]at this
def zLj (hh:¬a<b):wM P ⟨tm,h⟩ (.binOp .lss tx x y t2) (.s (.bool false)) [] [] []:=by have:=HF (P:=P) (st:=⟨tm,h⟩) (tx:=tx) (ty:=t2) hx hy;rwa [yAh hh]at this
def zLk (hh:a<=b):wM P ⟨tm,h⟩ (.binOp .leq tx x y t2) (.s (.bool true)) [] [] []:=by have:=HG (P:=P) (st:=⟨tm,h⟩) (tx:=tx) (ty:=t2) hx hy;rwa [yAe hh]at this
def zLl (hh:¬a<=b):wM P ⟨tm,h⟩ (.binOp .leq tx x y t2) (.s (.bool false)) [] [] []:=by have:=HG (P:=P) (st:=⟨tm,h⟩) (tx:=tx) (ty:=t2) hx hy;rwa [yAh hh]at this
def zLm (hh:b<a):wM P ⟨tm,h⟩ (.binOp .gtr tx x y t2) (.s (.bool true)) [] [] []:=by have:=HI (P:=P) (st:=⟨tm,h⟩) (tx:=tx) (ty:=t2) hx hy;rwa [yAe hh]at this
def zLn (hh:¬b<a):wM P ⟨tm,h⟩ (.binOp .gtr tx x y t2) (.s (.bool false)) [] [] []:=by have:=HI (P:=P) (st:=⟨tm,h⟩) (tx:=tx) (ty:=t2) hx hy;rwa [yAh hh]at this
def zLo (hh:b<=a):wM P ⟨tm,h⟩ (.binOp .geq tx x y t2) (.s (.bool true)) [] [] []:=by have:=HJ (P:=P) (st:=⟨tm,h⟩) (tx:=tx) (ty:=t2) hx hy;rwa [yAe hh]at this
def zLp (hh:¬b<=a):wM P ⟨tm,h⟩ (.binOp .geq tx x y t2) (.s (.bool false)) [] [] []:=by have:=HJ (P:=P) (st:=⟨tm,h⟩) (tx:=tx) (ty:=t2) hx hy;rwa [yAh hh]at this
def zLq (hh:a=b):wM P ⟨tm,h⟩ (.binOp .eql tx x y t2) (.s (.bool true)) [] [] []:=by have:=HC (P:=P) (st:=⟨tm,h⟩) (tx:=tx) (ty:=t2) hx hy;rwa [show(a==b)=true by simpa using hh]at this
def zLr (hh:a≠b):wM P ⟨tm,h⟩ (.binOp .eql tx x y t2) (.s (.bool false)) [] [] []:=by have:=HC (P:=P) (st:=⟨tm,h⟩) (tx:=tx) (ty:=t2) hx hy;rwa [show(a==b)=false by simpa using hh]at this
def zLs (hh:a≠b):wM P ⟨tm,h⟩ (.binOp .neq tx x y t2) (.s (.bool true)) [] [] []:=by have:=HE (P:=P) (st:=⟨tm,h⟩) (tx:=tx) (ty:=t2) hx hy;rwa [show(a != b)=true by simpa using hh]at this
def zLt (hh:a=b):wM P ⟨tm,h⟩ (.binOp .neq tx x y t2) (.s (.bool false)) [] [] []:=by have:=HE (P:=P) (st:=⟨tm,h⟩) (tx:=tx) (ty:=t2) hx hy;rwa [show(a != b)=false by simpa using hh]at this
end
end
def frc {β:Type} (v:AV) (K:AV->Option β):Option β:=match v with
 | .s v=>K (.s v)
 | .ptr k i o=>K (.ptr k i o)
 | .agg cs=>K (.agg cs)
 | .sl b xs=>K (.sl b xs)
 | .slc b xs=>K (.slc b xs)
 | .ref k o n=>K (.ref k o n)
 | .fp xs i o=>K (.fp xs i o)
 | .fn f cs=>K (.fn f cs)
 | .tup vs=>K (.tup vs)
 | .bot=>K .bot
 | .gh n=>K (.gh n)
 | .fm o p=>K (.fm o p)
def aF {β:Type} (v:AV) (K:AV->Option β):frc v K=K v:=by cases v<;>rfl
def SH {β:Type}:List AV->(List AV->Option β)->Option β
 | [],K=>K []
 |x::r,K=>frc x λx=>SH r λr=>K (x::r)
theorem jM {β:Type}:∀(l:List AV) (K:List AV->Option β),SH l K=K l
 | [],_=>rfl
 |x::r,K=>by rw[SH,aF,jM r]
abbrev Res:=AV×List (Nat×xN)×List Nat×List Nat
def ldR (ti:TI) (row:List AV) (off:Nat) (r:List Nat):Option Res:=
 bif ti.d.agg then(bif Nat.ble (off+ti.size) row.length then SH ((row.drop off).take ti.size) λl=>some (.agg l,[],r,[])else none)
 else match row[off]? with
  |some v=>frc v λv=>some (v,[],r,[])
  |none=>none
def zDe:BinOp->Bool
 | .eql| .neq| .lss| .leq| .gtr| .geq=>true
 |_=>false
def eX:Nat->List Nat->Bool
 |_,[]=>true
 |n,x::r=>Nat.beq x n&&eX (n+1) r
def exec (TT:List TI) (tm:List (Nat×AV)) (h:List (Nat×xN)) (t:Nat):Op->Option Res
 | .move x=>frc (yJ (zG tm) x) λv=>some (v,[],[],[])
 | .assign x=>frc (yJ (zG tm) x) λv=>some (v,[],[],[])
 | .pick c x y=>match yJ (zG tm) c with
  | .s (.bool b)=>bif b then frc (yJ (zG tm) x) λv=>some (v,[],[],[])else frc (yJ (zG tm) y) λv=>some (v,[],[],[])
  |_=>none
 | .extract x i=>match yJ (zG tm) x with
  | .tup vs=>match vs[i]? with
   |some v=>frc v λv=>some (v,[],[],[])
   |none=>none
  |_=>none
 | .box _ x=>match yJ (zG tm) x with
  | .agg cs=>some (.ptr t 0 0,[(t,.box cs)],[],[t])
  |v=>bif v.one then frc v λv=>some (.ptr t 0 0,[(t,.box [v])],[],[t])else none
 | .alloc T=>match TT[T]? with
  |some ti=>bif ti.zero.all (·.oneCell')then SH (ti.zero.map AV.s) λl=>some (.ptr t 0 0,[(t,.box l)],[],[t])else none
  |none=>none
 | .load T x=>match yJ (zG tm) x,TT[T]? with
  | .ptr k 0 off,some ti=>match zC h k with
   |some (.box cs)=>ldR ti cs off [k]
   |some (.arr _ xs _)=>match xs[0]? with
    |some y=>ldR ti y.cells off [k]
    |none=>none
   |_=>none
  | .ptr k (i+1) off,some ti=>match zC h k with
   |some (.arr _ xs _)=>match xs[i+1]? with
    |some y=>ldR ti y.cells off [k]
    |none=>none
   |_=>none
  | .fp xs i off,some ti=>match xs[i]? with
   |some y=>ldR ti y.cells off []
   |none=>none
  |_,_=>none
 | .store T p x=>match yJ (zG tm) p,TT[T]? with
  | .ptr k 0 off,some ti=>match zC h k with
   |some (.box cs)=>frc (yJ (zG tm) x) λv=>bif v.ok&&(Nat.beq v.cells.length ti.size&&Nat.ble (off+ti.size) cs.length)then SH (VJ cs off v.cells) λl=>some (.bot,[(k,.box l)],[k],[])else none
   |_=>none
  |_,_=>none
 | .fieldAddr T x f=>match yJ (zG tm) x,TT[T]? with
  | .ptr k 0 off,some ti=>match zC h k,ti.d with
   | some (.box _),.str fs=>match fs[f]? with
    |some (o,ft)=>match TT[ft]? with
     |some tf=>bif Nat.ble 1 tf.size then some (.ptr k 0 (off+o),[],[k],[])else none
     |none=>none
    |none=>none
   |_,_=>none
  |_,_=>none
 | .field T x f=>match yJ (zG tm) x,TT[T]? with
  | .agg cs,some ti=>match ti.d with
   | .str fs=>match fs[f]? with
    |some (o,ft)=>match TT[ft]? with
     |some tf=>ldR tf cs o []
     |none=>none
    |none=>none
   |_=>none
  |_,_=>none
 | .nilCheck x=>match yJ (zG tm) x with
  | .ptr k 0 off=>match zC h k with
   |some (.box _)=>some (.ptr k 0 off,[],[k],[])
   |_=>none
  |_=>none
 | .unOp .not _ x=>match yJ (zG tm) x with
  | .s (.bool b)=>some (.s (.bool !b),[],[],[])
  |_=>none
 | .makeFunc (.func f) ⟨[]⟩ cap=>SH (cap.toList.map (yJ (zG tm))) λl=>some (.fn f l,[],[],[])
 | .build T ps=>match TT[T]? with
  | some ti=>match ti.d with
   | .str fs=>bif ti.zero.all (·.oneCell')then(match zAx TT fs with
    |some pl=>match PV (pl[·]?) (ti.zero.map .s) (cO ⟨tm,h⟩ ps)with
     |some cs=>SH cs λl=>some (.agg l,[],[],[])
     |none=>none
    |none=>none)else none
   | .arr _ e=>bif ti.zero.all (·.oneCell')then(match TT[e]? with
    |some te=>match PV (λi=>some (i*te.size,te.size)) (ti.zero.map .s) (cO ⟨tm,h⟩ ps)with
     |some cs=>SH cs λl=>some (.agg l,[],[],[])
     |none=>none
    |none=>none)else none
   |_=>none
  |none=>none
 | .buildSlice T len ps=>match TT[T]? with
  | some ti=>match ti.d with
   | .slice e=>match TT[e]? with
    | some te=>bif eX 0 (ps.toList.map (·.1))&&(Nat.beq ps.toList.length len&&(Nat.ble 1 te.size&&(Nat.ble (len*te.size) 65536&&Nat.beq te.zero.length te.size)))then
      SH (ps.toList.map λp=>yJ (zG tm) p.2) λxs=>bif xs.all (λx=>Nat.beq x.cells.length te.size&&(x.ok&&x.nokey))then some (.ref t 0 len,[(t,.arr te.size xs false)],[],[t])else none else none
    |none=>none
   |_=>none
  |none=>none
 | .call ⟨.builtin .len,⟨[x]⟩,⟨[T]⟩⟩=>match TT[T]? with
  | some ti=>match ti.d with
   | .slice _=>match yJ (zG tm) x with
    | .sl _ xs=>some (.s (.int .i64 xs.length),[],[],[])
    | .ref k _ len=>match zC h k with
     |some (.arr _ _ _)=>some (.s (.int .i64 len),[],[k],[])
     |_=>none
    | .s (.slice _ n _)=>some (.s (.int .i64 n),[],[],[])
    |_=>none
   |_=>none
  |none=>none
 | .call ⟨.builtin .max,⟨[x,y]⟩,⟨[_,_]⟩⟩=>match yJ (zG tm) x,yJ (zG tm) y with
  | .s (.int .i64 m),.s (.int .i64 n)=>some (.s (.int .i64 (max m n)),[],[],[])
  |_,_=>none
 | .call ⟨.builtin .min,⟨[x,y]⟩,⟨[_,_]⟩⟩=>match yJ (zG tm) x,yJ (zG tm) y with
  | .s (.int .i64 m),.s (.int .i64 n)=>some (.s (.int .i64 (min m n)),[],[],[])
  |_,_=>none
 |_=>none
section
variable {P:Program} {TT:List TI} (hP:uI P TT) {tm:List (Nat×AV)} {h:List (Nat×xN)} {t:Nat}
def PN {ti:TI} {row:List AV} {off:Nat} {r:List Nat} {v:AV} {d:List (Nat×xN)} {r' nw:List Nat} (he:ldR ti row off r=some (v,d,r',nw)):ldv ti.d.agg ti.size row off=some v/\d=[]/\r'=r/\nw=[]:=by
 unfold ldR at he;unfold ldv
 cases hb:ti.d.agg with
 |true=>
  simp only[hb,yBn,jM]at he
  cases hc:Nat.ble (off+ti.size) row.length with
  |true=>simp only[hc,yBn,yBj,yB1]at he;simp[he.1,he.2.1,he.2.2.1,he.2.2.2]
  |false=>simp[hc]at he
 |false=>
  simp only[hb,yB5]at he
  cases hr:row[off]? with
  |none=>simp[hr]at he
  |some u=>simp only[hr,aF,yBj,yB1]at he;simp[he.1,he.2.1,he.2.2.1,he.2.2.2]
theorem YW:∀(l:List Nat) (n:Nat),eX n l=true->∀(j:Nat) x,l[j]? =some x->x=n+j
 | [],_,_,_,_,h=>by simp at h
 |y::r,n,hr,0,x,h=>by simp at h;subst h;simp[eX]at hr;omega
 |y::r,n,hr,j+1,x,h=>by
  simp only[eX,yAk]at hr;have:=YW r (n+1) hr.2 j x IY;omega
include hP in
theorem YX:∀{op:Op} {v:AV} {d:List (Nat×xN)} {r nw:List Nat},exec TT tm h t op=some (v,d,r,nw)->wM P ⟨tm,h⟩ op v d r nw:=by
 intro op v d r nw he;unfold exec at he;split at he
 ·simp only[aF,yBj,yB1]at he;obtain⟨rfl,rfl,rfl,rfl⟩:=he;exact zL8 Z
 ·simp only[aF,yBj,yB1]at he;obtain⟨rfl,rfl,rfl,rfl⟩:=he;exact zA2 Z
 ·split at he
  ·rename_i b hb
   cases b<;>simp only[yBn,yB5,aF,yBj,yB1]at he<;>obtain⟨rfl,rfl,rfl,rfl⟩:=he<;>exact zL9 hb Z
  ·cases he
 ·split at he
  ·rename_i hx;split at he
   ·rename_i hv;simp only[aF,yBj,yB1]at he;obtain⟨rfl,rfl,rfl,rfl⟩:=he;exact CI hx hv
   ·cases he
  ·cases he
 ·rename_i T x;generalize hx:yJ (zG tm) x=u at he;by_cases ha:u.isAgg=true
  ·cases u<;>simp[AV.isAgg]at ha
   simp only[yBj,yB1]at he;obtain⟨rfl,rfl,rfl,rfl⟩:=he;exact kW (v:= .agg _) t hx Z
  ·have he2:(bif u.one then some (AV.ptr t 0 0,[(t,xN.box [u])],([]:List Nat),[t])else none)=some (v,d,r,nw):=by
    cases u<;>first|exact he|(simp[AV.isAgg]at ha)
   cases ho:u.one with
   |false=>rw[ho]at he2;cases he2
   |true=>
    rw[ho]at he2;simp only[yBn,yBj,yB1]at he2;obtain⟨rfl,rfl,rfl,rfl⟩:=he2
    have ok:u.ok=true:=by cases u<;>first|rfl|exact ho
    have e:u.cells=[u]:=by cases u<;>first|rfl|(simp[AV.one]at ho)
    have:=kW (P:=P) (T:=T) (st:=⟨tm,h⟩) t hx ok
    rwa [e]at this
 ·split at he
  ·rename_i ti hT
   cases hz:ti.zero.all (·.oneCell')with
   |false=>simp[hz]at he
   |true=>
    simp only[hz,yBn,jM,yBj,yB1]at he;obtain⟨rfl,rfl,rfl,rfl⟩:=he;exact ZB hP t hT hz
  ·cases he
 ·split at he
  ·rename_i k off ti hx hT;split at he
   ·rename_i cs hk;obtain⟨q1,rfl,rfl,rfl⟩:=PN he;exact IW hP hx hk hT q1
   ·rename_i xs _ hk;split at he
    ·rename_i y hy;obtain⟨q1,rfl,rfl,rfl⟩:=PN he;exact fG hP hx hk hy hT q1
    ·cases he
   ·cases he
  ·rename_i k i off ti hx hT;split at he
   ·rename_i xs _ hk;split at he
    ·rename_i y hy;obtain⟨q1,rfl,rfl,rfl⟩:=PN he;exact fG hP hx hk hy hT q1
    ·cases he
   ·cases he
  ·rename_i xs i off ti hx hT;split at he
   ·rename_i y hy;obtain⟨q1,rfl,rfl,rfl⟩:=PN he;exact aI hP hx hy hT q1
   ·cases he
  ·cases he
 ·rename_i T p x;split at he
  ·rename_i k off ti hp hT;split at he
   ·rename_i cs hk;rw[aF]at he
    cases hc:((yJ (zG tm) x).ok&&(Nat.beq (yJ (zG tm) x).cells.length ti.size&&Nat.ble (off+ti.size) cs.length))with
    |false=>rw[hc]at he;cases he
    |true=>
     rw[hc]at he;simp only[yBn,jM,yBj,yB1]at he;obtain⟨rfl,rfl,rfl,rfl⟩:=he;simp only[yAk]at hc;exact MC hP hp Z hk hT hc.1 hc.2.1 hc.2.2
   ·cases he
  ·cases he
 ·split at he
  ·rename_i k off ti hx hT;split at he
   ·rename_i cs fs hk hd;split at he
    ·rename_i o ft hf;split at he
     ·rename_i tf hft
      cases hz:Nat.ble 1 tf.size with
      |false=>simp[hz]at he
      |true=>
       simp only[hz,yBn,yBj,yB1]at he;obtain⟨rfl,rfl,rfl,rfl⟩:=he;exact VK hP hx hk hT hd hf hft hz
     ·cases he
    ·cases he
   ·cases he
  ·cases he
 ·split at he
  ·rename_i cs ti hx hT;split at he
   ·rename_i fs hd;split at he
    ·rename_i o ft hf;split at he
     ·rename_i tf hft;obtain⟨q1,rfl,rfl,rfl⟩:=PN he;exact zFa hP hx hT hd hf hft q1
     ·cases he
    ·cases he
   ·cases he
  ·cases he
 ·split at he
  ·rename_i hx;split at he
   ·rename_i hk;simp only[yBj,yB1]at he;obtain⟨rfl,rfl,rfl,rfl⟩:=he;exact UW hx hk
   ·cases he
  ·cases he
 ·split at he
  ·rename_i hx;simp only[yBj,yB1]at he;obtain⟨rfl,rfl,rfl,rfl⟩:=he;exact zQn hx
  ·cases he
 ·simp only[jM,yBj,yB1]at he;obtain⟨rfl,rfl,rfl,rfl⟩:=he;exact HL
 ·split at he
  ·rename_i ti hT;split at he
   ·rename_i fs hd
    cases hz:ti.zero.all (·.oneCell')with
    |false=>simp[hz]at he
    | true=>
     simp only[hz,yBn]at he;split at he
     ·rename_i pl hpl;split at he
      ·rename_i cs hf;simp only[jM,yBj,yB1]at he;obtain⟨rfl,rfl,rfl,rfl⟩:=he;exact zE9 hP hT hd hz hpl hf
      ·cases he
     ·cases he
   ·rename_i e hd
    cases hz:ti.zero.all (·.oneCell')with
    |false=>simp[hz]at he
    | true=>
     simp only[hz,yBn]at he;split at he
     ·rename_i te hte;split at he
      ·rename_i cs hf;simp only[jM,yBj,yB1]at he;obtain⟨rfl,rfl,rfl,rfl⟩:=he;exact MB hP hT hd hte hz hf
      ·cases he
     ·cases he
   ·cases he
  ·cases he
 ·split at he
  ·rename_i ti hT;split at he
   ·rename_i e hd;split at he
    ·rename_i T len ps _ _ _ te hte;rw[jM]at he
     cases hc:(eX 0 (ps.toList.map (·.1))&&(Nat.beq ps.toList.length len&&(Nat.ble 1 te.size&&(Nat.ble (len*te.size) 65536&&Nat.beq te.zero.length te.size))))with
     |false=>rw[hc]at he;cases he
     | true=>
      rw[hc]at he;simp only[yBn]at he;generalize hxs:(ps.toList.map λp=>yJ (zG tm) p.2)=xs at he
      cases hw:xs.all (λx=>Nat.beq x.cells.length te.size&&(x.ok&&x.nokey))with
      |false=>simp[hw]at he
      | true=>
       simp only[hw,yBn,yBj,yB1]at he;obtain⟨rfl,rfl,rfl,rfl⟩:=he;simp only[yAk]at hc;obtain⟨c1,c2,c3,c4,c5⟩:=hc;refine yH hP t hT hd hte c3 ?_ (by rw[<-hxs];simpa using c2) hw c4 c5;rw[<-hxs];apply yBi;intro j;simp only[cO,yAa,yEx,yBu]
       cases hj:ps.toList[j]? with
       |none=>simp
       |some p=>
        have:=YW _ 0 c1 j p.1 (by simp[hj]);simp[this]
    ·cases he
   ·cases he
  ·cases he
 ·split at he
  ·rename_i ti hT;split at he
   ·rename_i hd;split at he
    ·rename_i hx;simp only[yBj,yB1]at he;obtain⟨rfl,rfl,rfl,rfl⟩:=he;exact zA1 hP hx hT hd
    ·rename_i hx;split at he
     ·rename_i hk;simp only[yBj,yB1]at he;obtain⟨rfl,rfl,rfl,rfl⟩:=he;exact CD hP hx hk hT hd
     ·cases he
    ·rename_i hx;simp only[yBj,yB1]at he;obtain⟨rfl,rfl,rfl,rfl⟩:=he;exact CE hP hx hT hd
    ·cases he
   ·cases he
  ·cases he
 ·split at he
  ·rename_i hx hy;simp only[yBj,yB1]at he;obtain⟨rfl,rfl,rfl,rfl⟩:=he;exact zQg hx hy
  ·cases he
 ·split at he
  ·rename_i hx hy;simp only[yBj,yB1]at he;obtain⟨rfl,rfl,rfl,rfl⟩:=he;exact zQh hx hy
  ·cases he
 ·cases he
end
def zLu:BinOp->Int->Int->Prop
 | .eql,a,b=>a=b
 | .neq,a,b=>a≠b
 | .lss,a,b=>a<b
 | .leq,a,b=>a<=b
 | .gtr,a,b=>b<a
 | .geq,a,b=>b<=a
 |_,_,_=>False
def qN:BinOp->Int->Int->Bool
 | .eql,a,b=>a==b
 | .neq,a,b=>a != b
 | .lss,a,b=>decide (a<b)
 | .leq,a,b=>decide (a<=b)
 | .gtr,a,b=>decide (b<a)
 | .geq,a,b=>decide (b<=a)
 |_,_,_=>false
section
variable {P:Program} {TT:List TI} {K0:List Nat} {F:Fr K0} {m:Nat} {ops:Array Oper} {rest:List Oper} {Q:List FP->St->Prop} {tm:List (Nat×AV)} {h:List (Nat×xN)} {dr:Bool} {fs:List FP}
variable {ty:Nat} {pos:String} {after:Array Edge} {t:Nat}
def vW (hP:uI P TT) {op:Op} {v:AV} {r:List Nat} (he:exec TT tm h t op=some (v,[],r,[])) (hm:Nat.blt t m=true) (hk:zX P F m ops dr rest ⟨(t,v)::tm,h⟩ (⟨true,[],r⟩::fs) Q):
 zX P F m ops dr (⟨some t,op,ty,pos,after,none⟩::rest) ⟨tm,h⟩ fs Q:=wG (YX hP he) hm hk
def RQ (hP:uI P TT) {op:Op} {v:AV} {k:Nat} {e:xN} {r nw:List Nat} (he:exec TT tm h t op=some (v,[(k,e)],r,nw)) (hm:Nat.blt t m=true) (hn:nw.all (λj=>(zC h j).isNone)=true) (hd:vJ [(k,e)]=true)
 (hk:zX P F m ops dr rest ⟨(t,v)::tm,(k,e)::h⟩ (⟨true,k::nw,r⟩::fs) Q):zX P F m ops dr (⟨some t,op,ty,pos,after,none⟩::rest) ⟨tm,h⟩ fs Q:=uS (YX hP he) hm hn hd hk
def WR (hP:uI P TT) {op:Op} {v:AV} {k:Nat} {e:xN} {r nw:List Nat} (he:exec TT tm h 0 op=some (v,[(k,e)],r,nw)) (hn:nw.all (λj=>(zC h j).isNone)=true) (hd:vJ [(k,e)]=true)
 (hk:zX P F m ops dr rest ⟨tm,(k,e)::h⟩ (⟨true,k::nw,r⟩::fs) Q):zX P F m ops dr (⟨none,op,ty,pos,after,none⟩::rest) ⟨tm,h⟩ fs Q:=x_s (YX hP he) hn hd hk
section
variable {op:BinOp} {tx t2:Nat} {x y:Operand} {k:IntKind} {a b:Int} (hop:zDe op=true) (hx:yJ (zG tm) x= .s (.int k a)) (hy:yJ (zG tm) y= .s (.int k b))
include hop hx hy
def zP7:wM P ⟨tm,h⟩ (.binOp op tx x y t2) (.s (.bool (qN op a b))) [] [] []:=by
 cases op<;>first
  |exact HC hx hy
  |exact HE hx hy
  |exact HF hx hy
  |exact HG hx hy
  |exact HI hx hy
  |exact HJ hx hy
  |(simp[zDe]at hop)
def zE2 (hh:zLu op a b):wM P ⟨tm,h⟩ (.binOp op tx x y t2) (.s (.bool true)) [] [] []:=by
 cases op<;>first
  |exact zLq hx hy hh
  |exact zLs hx hy hh
  |exact zLi hx hy hh
  |exact zLk hx hy hh
  |exact zLm hx hy hh
  |exact zLo hx hy hh
  |(simp[zDe]at hop)
def zE3 (hh:¬zLu op a b):wM P ⟨tm,h⟩ (.binOp op tx x y t2) (.s (.bool false)) [] [] []:=by
 cases op<;>first
  |exact zLr hx hy hh
  |exact zLt hx hy (by simpa [zLu]using hh)
  |exact zLj hx hy hh
  |exact zLl hx hy hh
  |exact zLn hx hy hh
  |exact zLp hx hy hh
  |(simp[zDe]at hop)
end
end
def LH {X:Nat->Prop} {h:yC} {β:vP} {w:World} (H:qV X h β w) {K:Nat} (hK:h K=none) {sz:Nat} (hp:1<=sz):yX X w h β w (over [(K,.arr sz [] true)] h) (dI β K []):=
 yX.step H K _ _ (yAb _) (λ_ _ _=>rfl) Z Z Z (λb n hm=>by simp at hm) (λ_ _ _=>rfl) (λe he=>by rw[hK]at he;cases he) (λE=>⟨hp,by simp,λh=>absurd Z h,λi y hy=>by simp at hy,
  λb n r hr=>by rw[zZ]at hr;simp at hr,λ_ _=>undef,λi y j v hy _=>by simp at hy,λi j hi _=>by simp at hi,λb n hm=>by rw[zZ]at hm;simp at hm⟩)
def gM {d:List (Nat×xN)} {h:yC} (hd:vJ d=true) (nd:∀k,h k≠some .dead):∀k,over d h k≠some .dead:=λk=>by
 unfold over;split
 ·rename_i e he;intro h4;cases h4;exact uG hd he
 ·exact nd k
section
variable {P:Program} {K0:List Nat} {F:Fr K0} {m:Nat} {tm:List (Nat×AV)} {h:List (Nat×xN)}
theorem xV.virt {a:Act} {w:World} (H:xV F m ⟨tm,h⟩ a w) (t K sz:Nat) (hv:zG tm t= .s (.slice none 0 0)) (hK:(zC h K).isNone=true) (hp:Nat.ble 1 sz=true):xV F m ⟨(t,.ref K 0 0)::tm,(K,.arr sz [] true)::h⟩ a w:=by
 obtain⟨⟨X,β,hX,HH,Ht,KK,hJ,hD⟩,nd,gs,hl⟩:=H;have hk:zC h K=none:=by simpa using hK
 have G:=LH HH hk (yAq hp);have nd':∀k,over [(K,.arr sz [] true)] (zC h) k≠some .dead:=gM Z nd
 have R:XF F m (zG ((t,.ref K 0 0)::tm)) (over [(K,.arr sz [] true)] (zC h)) a w:=by
  refine⟨⟨X,_,hX,G.hok,λj=>?_,KK.goes G nd' (G.lives HH nd'),λi hi=>?_,hD.goes HH G⟩,nd',gs,hl⟩
  ·rw[yF];split
   ·rename_i hj;subst hj;have:=Ht j;rw[hv]at this;rw[this.s_inv];exact .ref0 K 0 sz [] true none (qA _ _ _) (yAb _)
   ·exact(Ht j).evo G.evo
  ·rw[yF]at hi;split at hi
   ·cases hi
   ·exact F.go G (hJ i hi)
 unfold xV;dsimp only;rw[show zC ((K,.arr sz [] true)::h)=over [(K,.arr sz [] true)] (zC h)from wQ [(K,.arr sz [] true)] h];exact R
theorem xV.virtB {a:Act} {w:World} (H:xV F m ⟨tm,h⟩ a w) (k i K sz:Nat) {cs:List AV} (hk:zC h k=some (.box cs)) (hv:cs[i]? =some (.s (.slice none 0 0))) (hK:(zC h K).isNone=true) (hp:Nat.ble 1 sz=true):xV F m ⟨tm,(k,.box (cs.set i (.ref K 0 0)))::(K,.arr sz [] true)::h⟩ a w:=by
 obtain⟨⟨X,β,hX,HH,Ht,KK,hJ,hD⟩,nd,gs,hl⟩:=H;have hkn:zC h K=none:=by simpa using hK
 have G:=LH HH hkn (yAq hp);have nd':∀k,over [(K,.arr sz [] true)] (zC h) k≠some .dead:=gM Z nd;have hne:k≠K:=λe=>by rw[e,hkn]at hk;cases hk
 have hk2:over [(K,.arr sz [] true)] (zC h) k=some (.box cs):=by rw[<-wQ,yFk,yQ,zZ7 hne];exact hk
 have H2:=G.hok;have hβ:dI β K [] k=β k:=by unfold dI;rw[zZ7 hne]
 have G2:yX X w _ (dI β K []) w (over [(k,.box (cs.set i (.ref K 0 0)))] (over [(K,.arr sz [] true)] (zC h))) (dI (dI β K []) k (dI β K [] k)):=
  yX.step H2 k (.box (cs.set i (.ref K 0 0))) (dI β K [] k) (yAb _) (λ_ _ _=>rfl) Z Z Z (λb n hm=> .inl ⟨n,hm⟩) (λ_ _ _=>rfl) (λe he=>by rw[hk2]at he;cases he;exact .inr ⟨⟨_,rfl⟩,λb n hm=>hm⟩) (λE=>by
   obtain⟨b,c,el,h1,h2,h3,h4,h5⟩:=H2.ent k _ hk2;refine⟨b,c,el,by rw[zZ];exact h1,h2,by simpa using h3,h4,λj v hj=>?_⟩;rw[yB8]at hj;split at hj
   ·rename_i hij;subst hij;split at hj
    ·injection hj with hj
     subst hj;have h6:=h5 i _ hv;rw[h6.s_inv];refine .ref0 K 0 sz [] true none ?_ (yAb _);rw[show over [(k,xN.box (cs.set i (.ref K 0 0)))] (over [(K,.arr sz [] true)] (zC h)) K=_ from by rw[<-wQ,<-wQ,yFk,yFk,yQ,zZ7 (λe=>hne e.symm),yQ,zZ8 Z]]
    ·cases hj
   ·exact(h5 j v hj).evo E)
 have nd2:=gM (d:=[(k,.box (cs.set i (.ref K 0 0)))]) Z nd'
 have R:XF F m (zG tm) (over [(k,.box (cs.set i (.ref K 0 0)))] (over [(K,.arr sz [] true)] (zC h))) a w:=
  ⟨⟨X,_,hX,G2.hok,λj=>((Ht j).evo G.evo).evo G2.evo,(KK.goes G nd' (G.lives HH nd')).goes G2 nd2 (G2.lives H2 nd2),λi hi=>F.go G2 (F.go G (hJ i hi)),(hD.goes HH G).goes H2 G2⟩,nd2,gs,hl⟩
 unfold xV;dsimp only;rw[show zC ((k,.box (cs.set i (.ref K 0 0)))::(K,.arr sz [] true)::h)=over [(k,.box (cs.set i (.ref K 0 0)))] (over [(K,.arr sz [] true)] (zC h))from(wQ [(k,.box (cs.set i (.ref K 0 0)))] _).trans (yA6 (over _) (wQ [(K,.arr sz [] true)] h))];exact R
def yZ {c:Code} {Q:Exit->St->Prop} (t K sz:Nat) (hv:zG tm t= .s (.slice none 0 0)) (hK:(zC h K).isNone=true) (hp:Nat.ble 1 sz=true) (hk:vK P F m c ⟨(t,.ref K 0 0)::tm,(K,.arr sz [] true)::h⟩ Q):vK P F m c ⟨tm,h⟩ Q:=⟨λa w H=>hk.run a w (H.virt t K sz hv hK hp)⟩
def uF {c:Code} {Q:Exit->St->Prop} (k i K sz:Nat) {cs cs':List AV} (hb:zC h k=some (.box cs)) (hv:cs[i]? =some (.s (.slice none 0 0))) (hK:(zC h K).isNone=true) (hp:Nat.ble 1 sz=true) (hc:cs.set i (.ref K 0 0)=cs') (hk:vK P F m c ⟨tm,(k,.box cs')::(K,.arr sz [] true)::h⟩ Q):
 vK P F m c ⟨tm,h⟩ Q:=⟨λa w H=>hk.run a w (hc▸H.virtB k i K sz hb hv hK hp)⟩
end
section
variable {P:Program} {TT:List TI} (hP:uI P TT) {tm:List (Nat×AV)} {h:List (Nat×xN)}
include hP in
def UT {T e:Nat} {x ix:Operand} {ti te:TI} {key len sz:Nat} {xs:List AV} {sl:Fl} {k:IntKind} {i:Int} (hx:yJ (zG tm) x= .ref key 0 len) (hi:yJ (zG tm) ix= .s (.int k i)) (hk:zC h key=some (.arr sz xs sl)) (hT:TT[T]? =some ti) (hd:ti.d= .slice e) (he:TT[e]? =some te)
  (h0:0<=i) (hl:i<len) (hs:Nat.beq sz te.size=true):wM P ⟨tm,h⟩ (.indexAddr T x ix) (.ptr key i.toNat 0) [] [key] []:=by
 have:=VM (st:=⟨tm,h⟩) hP hx hi hk hT hd he h0 hl hs
 rwa [yBu]at this
end
section
variable {P:Program} {K0:List Nat} {F:Fr K0} {m:Nat} {ops:Array Oper} {rest:List Oper} {Q:List FP->St->Prop} {dr:Bool} {fs:List FP}
variable {ty t:Nat} {pos:String} {after:Array Edge} {st:St}
def xC {s x:Operand} {T T':Nat} (hk:zX P F m ops dr (⟨some t,.call ⟨.builtin .append, #[s,x], #[T,T']⟩,ty,pos,after,none⟩::rest) st fs Q):zX P F m ops dr (⟨some t,.call ⟨.builtin .append, #[s,x], #[T,T']⟩,ty,pos,after,none⟩::rest) st fs Q:=hk
def vS (n:Nat) {asq:Array Operand} {ts:Array Nat} (hk:zX P F m ops dr (⟨some t,.call ⟨.value (.func n),asq,ts⟩,ty,pos,after,none⟩::rest) st fs Q):zX P F m ops dr (⟨some t,.call ⟨.value (.func n),asq,ts⟩,ty,pos,after,none⟩::rest) st fs Q:=hk
def zP8 {S D:Nat} {x:Operand} (hk:zX P F m ops dr (⟨some t,.convert S D x,ty,pos,after,none⟩::rest) st fs Q):zX P F m ops dr (⟨some t,.convert S D x,ty,pos,after,none⟩::rest) st fs Q:=hk
def DM {op:UnOp} {x:Operand} {T:Nat} (hk:zX P F m ops dr (⟨some t,.unOp op T x,ty,pos,after,none⟩::rest) st fs Q):zX P F m ops dr (⟨some t,.unOp op T x,ty,pos,after,none⟩::rest) st fs Q:=hk
end
def DN {P:Program} {TT:List TI} {tm:List (Nat×AV)} {h:List (Nat×xN)} {src dst:Nat} {x:Operand} {k k':IntKind} {n:Int} {ts td:TI} (hP:uI P TT) (hs:TT[src]? =some ts) (hd:TT[dst]? =some td) (hk:td.d= .int k') (hx:yJ (zG tm) x= .s (.int k n)) (hr:XN k' n):
  wM P ⟨tm,h⟩ (.convert src dst x) (.s (.int k' n)) [] [] []:=by
 have:=CJ (st:=⟨tm,h⟩) hP hs hd hk hx
 rwa [qP hr]at this
end Av
end Go.Proofs.YteajjdidebfcjaaGreat
