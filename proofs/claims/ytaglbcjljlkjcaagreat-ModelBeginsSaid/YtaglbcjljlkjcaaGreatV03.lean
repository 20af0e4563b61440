/- Part 3. -/
import Derived.Test.YtaglbcjljlkjcaaGreatProg
import Derived.Test.YtaglbcjljlkjcaaGreatV02
import Derived.RangeFuncIn
import Derived.RangeFuncSeq
import Derived.RangeFuncLeaves
import Derived.Laws.BytesArg
import Derived.Laws.Strings
import Derived.Laws.StructEq
namespace Go.Proofs.YtaglbcjljlkjcaaGreat.Av
set_option linter.all false
set_option maxRecDepth 4000
open List renaming length->ln,replicate->pg,getD->pi
open Inhabited renaming default->dd
variable {a:Act}{asq:Array Operand}{nn sb:Bool}{body c:Code}{Q:Exit->St->Prop}{sl:Fl}{m nx:Int}{k:IntKind}{h0:List (Nat×xM)}{b:List Int}{K0:List Nat}{T e i key len n off sz t ty:Nat}{X:Nat->Prop}{op:Op}{d l s x y:Operand}{P:Program}{st:St}{te ti:TI}{w:World}{β:uH}{h:yM}
abbrev zFN:TI:=⟨.func,1,8,[.nilFunc]⟩
abbrev zPT (n:Nat):TI:=⟨.ptr n,1,8,[.pointer none]⟩
abbrev zSL (n:Nat):TI:=⟨.slice n,1,24,[.slice none 0 0]⟩
abbrev zNL:Value:= .slice none 0 0
abbrev zZI:Value:= .int .i64 0
abbrev zTA:TI:=⟨.str [(0,3),(1,3),(2,3),(3,3),(4,3)],5,40,[zZI,zZI,zZI,zZI,zZI]⟩
abbrev zTB:TI:=⟨.int .u8,1,1,[.int .u8 0]⟩
abbrev zTC:TI:=⟨.other,1,0,[.tuple #[zNL,zZI]]⟩
abbrev zTD:TI:=⟨.str [(0,3),(1,3),(2,3)],3,24,[zZI,zZI,zZI]⟩
abbrev zTE:TI:=⟨.str [(0,3),(1,3)],2,16,[zZI,zZI]⟩
abbrev zTF:TI:=⟨.int .i64,1,8,[zZI]⟩
abbrev zTG:TI:=⟨.string,1,16,[.string ⟨#[]⟩]⟩
abbrev zTH:TI:=⟨.int .u64,1,8,[.int .u64 0]⟩
abbrev zTI:TI:=⟨.int .i32,1,4,[.int .i32 0]⟩
abbrev zTJ:TI:=⟨.str [(0,2),(1,3),(2,4),(3,6)],4,24,[zZI,zZI,.bool false,.int .u8 0]⟩
abbrev zTK:TI:=⟨.str [(0,9),(1,12)],2,24,[.string ⟨#[]⟩,.int .u64 0]⟩
abbrev zTL:TI:=⟨.str [(0,17)],1,8,[.pointer none]⟩
abbrev zTM:TI:=⟨.str [(0,25),(1,26),(2,3),(3,3),(4,3),(5,3)],6,80,[zNL,zNL,zZI,zZI,zZI,zZI]⟩
abbrev zTN:TI:=⟨.str [(0,28),(6,4),(7,3),(8,29),(9,30),(10,31),(11,22),(12,32)],13,216,[zNL,zNL,zZI,zZI,zZI,zZI,.bool false,zZI,zNL,zNL,zNL,zNL,zNL]⟩
abbrev zTO:TI:=⟨.str [(0,34),(13,35)],14,240,[zNL,zNL,zZI,zZI,zZI,zZI,.bool false,zZI,zNL,zNL,zNL,zNL,zNL,zNL]⟩
abbrev zTP:TI:=⟨.str [(0,42),(1,43)],2,48,[zNL,zNL]⟩
abbrev zTQ:TI:=⟨.str [(0,55),(1,3),(2,3),(3,22),(4,3),(5,3),(6,3),(7,3)],8,96,[zNL,zZI,zZI,zNL,zZI,zZI,zZI,zZI]⟩
abbrev zTR:TI:=⟨.str [(0,3),(1,55),(2,22),(3,55)],4,80,[zZI,zNL,zNL,zNL]⟩
abbrev zTS:TI:=⟨.str [(0,62),(1,3),(2,55)],3,40,[zZI,zZI,zNL]⟩
abbrev zTT:TI:=⟨.str [(0,4),(1,58)],2,32,[.bool false,zNL]⟩
abbrev zTU:TI:=⟨.str [(0,3),(1,57),(9,70),(10,71),(11,73)],14,176,[zZI,zNL,zZI,zZI,zNL,zZI,zZI,zZI,zZI,zNL,zNL,zZI,zZI,zZI]⟩
abbrev zTV:TI:=⟨.str [(0,75),(14,76),(15,77),(16,78)],17,248,[zZI,zNL,zZI,zZI,zNL,zZI,zZI,zZI,zZI,zNL,zNL,zZI,zZI,zZI,zNL,zNL,zNL]⟩
abbrev zTW:TI:=⟨.other,1,0,[.tuple #[zZI,zZI]]⟩
abbrev zTX:TI:=⟨.str [(0,4),(1,4),(2,22),(3,22)],4,56,[.bool false,.bool false,zNL,zNL]⟩
abbrev zTY:TI:=⟨.str [(0,88),(1,22),(2,3)],3,56,[zNL,zNL,zZI]⟩
abbrev zTZ:TI:=⟨.str [(0,91),(1,3),(2,22),(3,3)],4,64,[zNL,zZI,zNL,zZI]⟩
abbrev zUA:TI:=⟨.str [(0,93),(4,4)],5,72,[zNL,zZI,zNL,zZI,.bool false]⟩
abbrev zUB:TI:=⟨.str [(0,3),(1,3),(2,22)],3,40,[zZI,zZI,zNL]⟩
abbrev zUC:TI:=⟨.str [(0,22),(1,3)],2,32,[zNL,zZI]⟩
abbrev zUD:TI:=⟨.str [(0,3),(1,3),(2,3),(3,3),(4,55)],5,56,[zZI,zZI,zZI,zZI,zNL]⟩
abbrev zUE:TI:=⟨.str [(0,77),(1,55)],2,48,[zNL,zNL]⟩
abbrev zUF:TI:=⟨.str [(0,3),(1,3),(2,3),(3,3),(4,3),(5,3),(6,3),(7,3)],8,64,[zZI,zZI,zZI,zZI,zZI,zZI,zZI,zZI]⟩
abbrev zUG:TI:=⟨.str [(0,55),(1,4)],2,32,[zNL,.bool false]⟩
abbrev zUH:TI:=⟨.str [(0,4),(1,4),(2,184)],4,40,[.bool false,.bool false,zNL,.bool false]⟩
abbrev zUI:TI:=⟨.str [(0,3),(1,3),(2,62)],3,24,[zZI,zZI,zZI]⟩
abbrev zUJ:TI:=⟨.str [(0,3),(1,3),(2,3),(3,3),(4,227)],5,56,[zZI,zZI,zZI,zZI,zNL]⟩
abbrev zUK:TI:=⟨.str [(0,4),(1,55),(2,3),(3,3),(4,3),(5,3)],6,64,[.bool false,zNL,zZI,zZI,zZI,zZI]⟩
abbrev zUL:TI:=⟨.str [(0,3),(1,3),(2,3),(3,3),(4,3),(5,3)],6,48,[zZI,zZI,zZI,zZI,zZI,zZI]⟩
abbrev zUM:TI:=⟨.str [(0,17),(1,17),(2,17),(3,9)],4,40,[.pointer none,.pointer none,.pointer none,.string ⟨#[]⟩]⟩
abbrev zUN:TI:=⟨.str [(0,393)],0,0,[]⟩
abbrev zUO:TI:=⟨.str [(0,12),(1,12),(2,317),(3,397),(4,5),(5,5),(6,398),(7,399),(8,400),(9,401),(10,402)],11,48,[.int .u64 0,.int .u64 0,.int .u32 0,.int .u8 0,.int .u8 0,.int .u8 0,.int .u8 0,.nilFunc,.pointer none,.int .i32 0,.int .i32 0]⟩
def TT:List TI:=[⟨.other,1,0,[.tuple #[]]⟩,zFN,zTF,zTF,⟨.bool,1,1,[.bool false]⟩,zTB,zTB,zTJ,zTJ,zTG,zTG,zTG,zTH,zTK,zTK,zPT 392,zPT 395,zPT 404,zTL,zTL,⟨.other,1,16,[.nilIface]⟩,zTI,zSL 3,zPT 115,zFN,zSL 90,zSL 57,zTM,zTM,zSL 80,zSL 95,zSL 101,zSL 87,zTN,zTN,zSL 186,zTO,zTO,zFN,zSL 68,zFN,zFN,zSL 43,zSL 60,zTP,zTP,⟨.other,1,0,[.tuple #[.agg #[zNL,zNL,zZI,zZI,zZI,zZI,.bool false,zZI,zNL,zNL,zNL,zNL,zNL],.agg #[zNL,zNL]]]⟩,zFN,zFN,zFN,zFN,zFN,zFN,zFN,zFN,zSL 5,zTQ,zTQ,zSL 66,zTR,zTR,zFN,zTF,zTC,zFN,zTS,zTS,zTT,zTT,zFN,zSL 268,zSL 270,zTD,zTD,zTU,zTU,zSL 229,zSL 55,zSL 4,zTV,zTV,zTW,zFN,zFN,zFN,zFN,zTX,zTX,zSL 169,zTY,zTY,zSL 166,zTZ,zTZ,zUA,zUA,zTH,zFN,zFN,zFN,zUB,zUB,zFN,zFN,zFN,⟨.arr 2 3,2,16,[zZI,zZI]⟩,zSL 105,zFN,zFN,zSL 112,zFN,zTA,zTA,zFN,zUC,zUC,zFN,zFN,zSL 121,zFN,zUD,zUD,zUE,zUE,⟨.other,1,0,[.tuple #[.agg #[zNL,zNL,zZI,zZI,zZI,zZI,.bool false,zZI,zNL,zNL,zNL,zNL,zNL,zNL],.agg #[zNL,zNL],.bool false]]⟩,zFN,zFN,zFN,zSL 42,zSL 204,⟨.other,1,0,[.tuple #[zNL,zNL,zNL]]⟩,zFN,⟨.other,1,0,[.tuple #[.agg #[zNL,zZI,zNL,zZI,.bool false],.bool false]]⟩,zFN,zFN,zPT 34,zFN,zFN,zFN,zTD,zTD,zFN,zFN,zFN,zFN,⟨.other,1,0,[.tuple #[.agg #[zZI,zNL,zZI,zZI,zNL,zZI,zZI,zZI,zZI,zNL,zNL,zZI,zZI,zZI,zNL,zNL,zNL],zNL,zNL,zNL]]⟩,zFN,⟨.other,1,0,[.tuple #[.agg #[zNL,zZI,zNL,zZI,.bool false],.agg #[zZI,zZI,zNL]]]⟩,zFN,zFN,zFN,zFN,zFN,zFN,zFN,zFN,zFN,zFN,zFN,zFN,zFN,zFN,zFN,zFN,zFN,zTE,zTE,zFN,zUF,zUF,zFN,zFN,zFN,zTH,zPT 80,zFN,zFN,zFN,zFN,zFN,zFN,zFN,zFN,zUG,zUG,zUH,zUH,zFN,zFN,⟨.other,1,0,[.tuple #[.agg #[.bool false,.bool false,zNL,.bool false],.agg #[.bool false,zNL]]]⟩,zFN,zFN,zFN,zFN,zFN,zFN,zFN,zFN,zFN,zFN,zFN,zFN,zFN,zUI,zUI,zFN,zFN,zFN,zFN,zFN,
 ⟨.other,1,0,[.tuple #[.agg #[zZI,zNL,zZI,zZI,zNL,zZI,zZI,zZI,zZI,zNL,zNL,zZI,zZI,zZI,zNL,zNL,zNL],.agg #[zZI,zNL,zNL,zNL],.agg #[zZI,zZI,zZI],zZI]]⟩,zFN,zFN,zFN,zFN,zFN,zFN,zFN,zFN,zTA,zTA,zFN,zFN,zFN,zFN,zFN,zFN,zSL 231,zUJ,zUJ,zTA,zTA,zFN,zFN,zFN,zFN,zFN,zFN,zFN,zFN,zFN,⟨.other,1,0,[.tuple #[.agg #[zNL,.bool false],.bool false]]⟩,zFN,⟨.other,1,0,[.tuple #[.agg #[zNL,.bool false],zNL]]⟩,zFN,zFN,zFN,zFN,zFN,zFN,zFN,zFN,zFN,zFN,zFN,⟨.other,1,0,[.tuple #[.agg #[zZI,zNL,zNL,zNL],zZI]]⟩,zFN,⟨.other,1,0,[.tuple #[.agg #[zZI,zNL,zZI,zZI,zNL,zZI,zZI,zZI,zZI,zNL,zNL,zZI,zZI,zZI],zZI,zZI]]⟩,zFN,⟨.other,1,0,[.tuple #[.agg #[zZI,zNL,zZI,zZI,zNL,zZI,zZI,zZI,zZI,zNL,zNL,zZI,zZI,zZI,zNL,zNL,zNL],.agg #[zZI,zNL,zNL,zNL],zZI,zZI]]⟩,zFN,zFN,zFN,zFN,zFN,zFN,zFN,zUK,zUK,zTE,zTE,zFN,zFN,zFN,zFN,zFN,zPT 93,zFN,⟨.other,1,0,[.tuple #[.agg #[zZI,zZI,zNL],zZI,.bool false]]⟩,zFN,zFN,zFN,zFN,zFN,zFN,zFN,zUL,zUL,⟨.other,1,0,[.tuple #[.agg #[zZI,zZI,zZI,zZI,zZI,zZI],.bool false]]⟩,zFN,⟨.other,1,0,[.tuple #[zZI,.bool false]]⟩,zFN,zFN,⟨.other,1,0,[.tuple #[zNL,zNL,.bool false]]⟩,zFN,zTW,zFN,⟨.other,1,0,[.tuple #[.agg #[zZI,zZI,zZI],.bool false]]⟩,zFN,⟨.other,1,0,[.tuple #[.agg #[zZI,zNL,zZI,zZI,zNL,zZI,zZI,zZI,zZI,zNL,zNL,zZI,zZI,zZI,zNL,zNL,zNL],.agg #[zZI,zNL,zNL,zNL],zZI]]⟩,zFN,⟨.other,1,0,[.tuple #[.agg #[zZI,zNL,zZI,zZI,zNL,zZI,zZI,zZI,zZI,zNL,zNL,zZI,zZI,zZI,zNL,zNL,zNL],zZI]]⟩,zFN,zFN,zTC,zFN,zFN,zFN,zFN,zFN,zFN,zFN,zFN,zFN,zFN,zFN,zFN,⟨.int .u32,1,4,[.int .u32 0]⟩,zFN,zFN,zFN,zFN,zFN,zFN,zFN,zFN,zFN,zFN,zFN,zFN,zFN,⟨.other,1,0,[.tuple #[zZI,zZI,zZI]]⟩,zFN,
 ⟨.other,1,0,[.tuple #[.agg #[zZI,zNL,zZI,zZI,zNL,zZI,zZI,zZI,zZI,zNL,zNL,zZI,zZI,zZI],.agg #[zZI,zNL,zNL,zNL],.bool false,zZI]]⟩,zFN,⟨.other,1,0,[.tuple #[.agg #[zZI,zZI],.bool false]]⟩,zFN,⟨.other,1,0,[.tuple #[.agg #[zZI,zZI,zZI,zZI,zZI],zZI]]⟩,zFN,zFN,zFN,zFN,zFN,⟨.arr 5 3,5,40,[zZI,zZI,zZI,zZI,zZI]⟩,zFN,zFN,zFN,zFN,zFN,zFN,zFN,zFN,zFN,zFN,zFN,zFN,⟨.other,1,0,[.tuple #[zNL,zZI,zZI]]⟩,zFN,zTC,zFN,zTC,zFN,zFN,zFN,⟨.other,1,0,[.tuple #[.agg #[zZI,zZI,zZI,zZI,zNL],.bool false]]⟩,zFN,zFN,zFN,zPT 75,zFN,zFN,zFN,zFN,zFN,zFN,zFN,zFN,zFN,zFN,zFN,zFN,zFN,zFN,zFN,zFN,zFN,zSL 71,zFN,zFN,zFN,zFN,zUM,zUM,⟨.arr 0 16,0,0,[]⟩,zUN,zUN,zFN,zTB,zTB,zFN,zPT 5,zTI,zTI,zUO,zUO,⟨.other,1,8,[.pointer none]⟩]
def tok:qI Tryz.prog TT:=Va vA
def Z0 (v:AV) (k:AV->Prop):Prop:=match v with
 | .s v=>k (.s v)
 | .ptr j i o=>k (.ptr j i o)
 | .agg cs=>k (.agg cs)
 | .sl b xs=>k (.sl b xs)
 | .slc b xs=>k (.slc b xs)
 | .ref j o n=>k (.ref j o n)
 | .fp xs i o=>k (.fp xs i o)
 | .fn f cs=>k (.fn f cs)
 | .tup u=>k (.tup u)
 | .bot=>k .bot
 | .gh n=>k (.gh n)
 | .fm o p=>k (.fm o p)
def Xe (v:AV) (k:AV->Prop):Z0 v k=k v:=by cases v<;>rfl
def BM:List AV->(List AV->Prop)->Prop
 | [],k=>k []
 |x::r,k=>Z0 x λx=>BM r λr=>k (x::r)
theorem MS:∀(l:List AV) (k:List AV->Prop),BM l k=k l
 | [],_=>rfl
 |x::r,k=>by rw[BM,Xe,MS r]
def jO (K:List Nat) (h:yM) (u:List (Nat×AV)):List Nat->(List (Nat×AV)->Prop)->Prop
 | [],k=>k []
 |t::z,k=>Z0 (wR K h (zL u t)) λv=>jO K h u z λr=>k ((t,v)::r)
theorem dJ (K:List Nat) (h:yM) (z:List (Nat×AV)):∀(u:List Nat) (k:List (Nat×AV)->Prop),jO K h z u k=k (u.map λt=>(t,wR K h (zL z t)))
 | [],_=>rfl
 |t::u,k=>by rw[jO,Xe,dJ K h z u];rfl
def jJ (K:List Nat) (h:yM):List Nat->(List (Nat×xM)->Prop)->Prop
 | [],k=>k []
 |j::Ks,k=>match h j with
  |none=>jJ K h Ks k
  |some (.box cs)=>BM (qG K h cs) λcs=>jJ K h Ks λr=>k ((j,.box cs)::r)
  |some (.arr sz xs st)=>bif st.nest then BM (qG K h xs) λxs=>(bif wM xs then jJ K h Ks λr=>k ((j,.arr sz xs ⟨st.stale,false⟩)::r)else jJ K h Ks λr=>k ((j,.arr sz xs ⟨st.stale,true⟩)::r))else jJ K h Ks λr=>k ((j,.arr sz xs st)::r)
  |some .dead=>jJ K h Ks λr=>k ((j,.dead)::r)
  |some (.obj o)=>jJ K h Ks λr=>k ((j,.obj o)::r)
theorem kE (K:List Nat) (h:yM):∀(Ks:List Nat) (k:List (Nat×xM)->Prop),jJ K h Ks k=k (Ks.filterMap λj=>(h j).map λe=>(j,qD K h e))
 | [],_=>rfl
 | j ::Ks,k=>by
  rw[jJ,List.filterMap_cons]
  cases h j with
  |none=>exact kE K h Ks k
  | some e=>
   cases e with
   |box cs=>dsimp only[Option.map_some];rw[MS,kE K h Ks];rfl
   |obj cs=>dsimp only[Option.map_some];rw[kE K h Ks];rfl
   | arr sz xs st=>
    dsimp only[Option.map_some]
    cases u:st.nest with
    |false=>
     have e:qD K h (.arr sz xs st)= .arr sz xs st:=by simp only[qD,u,zB9]
     rw[e];simp only[zB9];rw[kE K h Ks]
    |true=>
     have e:qD K h (.arr sz xs st)= .arr sz (qG K h xs) ⟨st.stale,!wM (qG K h xs)⟩:=by simp only[qD,u,zBk]
     rw[e];simp only[zBk];rw[MS]
     cases hk:wM (qG K h xs)with
     |true=>simp only[zBk,zE4];rw[kE K h Ks]
     |false=>simp only[zB9,zD6];rw[kE K h Ks]
   |dead=>dsimp only[Option.map_some];rw[kE K h Ks];rfl
section
variable {P:Program} {K0:List Nat} {F:Fr K0} {m:Nat} {Q:Exit->St->Prop} {st:St} {c:Code}
def aL (Q:Exit->St->Prop) (I:St->Prop):Exit->St->Prop
 | .normal,s=>I s
 |e,s=>Q e s
theorem zZ (N:Nat) (K Ks B u:List Nat) (C:K0.all (K.contains ·)=true) (I:Nat->List (Nat×AV)->List (Nat×xM)->St->Prop)
  (h:jO K (zD st.h) st.tm B λT=>jJ K (zD st.h) Ks λU=>I 0 T U (restr K u st)/\(∀i s,i<N->I i T U s->uG P F m c s (aL Q λs=>I (i+1) T U (restr K u s)))/\
   ∀s,I N T U s->uG P F m c s (aL Q λ_=>False)):uG P F m (.loop c) st Q:=by
 rw[dJ,kE]at h;generalize (B.map _)=T at h;generalize (Ks.filterMap _)=U at h;obtain⟨h0,h1,h2⟩:=h;refine wH (λn s=>∃i,n+i=N/\I i T U s) N K u C ⟨0,rfl,h0⟩ λn s ⟨i,hi,hs⟩=>?_
 by_cases z:i<N
 .refine(h1 i s z hs).mono λe E A=>?_
  cases e with
  |normal=>exact⟨n-1,by omega,i+1,by omega,A⟩
  |_=>exact A
 .obtain rfl:i=N:=by omega
  refine(h2 s hs).mono λe E A=>?_
  grind [jO,zD,jJ,restr,aL]
theorem zM (N:Nat) (K Ks z u:List Nat) (A:K0.all (K.contains ·)=true) (S:Nat->List (Nat×AV)->List (Nat×xM)->St)
  (h:jO K (zD st.h) st.tm z λT=>jJ K (zD st.h) Ks λU=>restr K u st=S 0 T U/\(∀i,i<N->uG P F m c (S i T U) (aL Q λs=>restr K u s=S (i+1) T U))/\
   uG P F m c (S N T U) (aL Q λ_=>False)):uG P F m (.loop c) st Q:=by
 refine zZ N K Ks z u A (λi T U s=>s=S i T U) ?_
 grind
theorem fH (N:Nat) (K Ks A u:List Nat) (B:K0.all (K.contains ·)=true) (I:Nat->List (Nat×AV)->List (Nat×xM)->St->Prop)
  (h:jO K (zD st.h) st.tm A λT=>jJ K (zD st.h) Ks λU=>I N T U (restr K u st)/\∀n s,I n T U s->uG P F m c s (aL Q λs=>∃z,z<n/\I z T U (restr K u s))):uG P F m (.loop c) st Q:=by
 rw[dJ,kE]at h;generalize (A.map _)=T at h;generalize (Ks.filterMap _)=U at h;obtain⟨h0,h1⟩:=h;refine wH (λn s=>I n T U s) N K u B h0 λn s C=>(h1 n s C).mono λe G E=>?_
 grind [jO,zD,jJ,restr,aL]
theorem zU {α:Type} (l:List α) (K Ks z u:List Nat) (A:K0.all (K.contains ·)=true) (S:Nat->List α->List (Nat×AV)->List (Nat×xM)->St)
  (h:jO K (zD st.h) st.tm z λT=>jJ K (zD st.h) Ks λU=>restr K u st=S 0 [] T U/\
   (∀i gd x post,l=gd++x::post->ln gd=i->uG P F m c (S i gd T U) (aL Q λs=>restr K u s=S (i+1) (gd++[x]) T U))/\
   uG P F m c (S (ln l) l T U) (aL Q λ_=>False)):uG P F m (.loop c) st Q:=by
 refine zM (ln l) K Ks z u A (λi T U=>S i (l.take i) T U) ?_;rw[dJ,kE]at h⊢
 grind [jO,zD,jJ,restr,aL,List.drop_eq_getElem_cons,List.take_append_drop,List.take_append_getElem]
theorem kU {α:Type} (l:List α) (K Ks z u:List Nat) (A:K0.all (K.contains ·)=true) (I:Nat->List α->List (Nat×AV)->List (Nat×xM)->St->Prop)
  (h:jO K (zD st.h) st.tm z λT=>jJ K (zD st.h) Ks λU=>I 0 [] T U (restr K u st)/\
   (∀i gd x post s,l=gd++x::post->ln gd=i->I i gd T U s->uG P F m c s (aL Q λs=>I (i+1) (gd++[x]) T U (restr K u s)))/\
   ∀s,I (ln l) l T U s->uG P F m c s (aL Q λ_=>False)):uG P F m (.loop c) st Q:=by
 refine zZ (ln l) K Ks z u A (λi T U s=>I i (l.take i) T U s) ?_;rw[dJ,kE]at h⊢
 grind [jO,zD,jJ,restr,aL,List.drop_eq_getElem_cons,List.take_append_drop,List.take_append_getElem]
end
section
variable {α:Type} {l gd post:List α} {x:α} {i:Nat}
def zX (h:l=gd++x::post) (hi:ln gd=i):i<ln l:=by subst h;simp;omega
def zY {β:Type} (f:α->β) (h:l=gd++x::post) (hi:ln gd=i):(l.map f)[i]? =some (f x):=by subst h;subst hi;simp
def yQ (h:l=gd++x::post):x∈l:=by subst h;simp
def zA {β:Type} (f:α->β) (l:List α):(l.map f).length=ln l:=by simp
def yG (f:α->AV) (l:List α) (h:∀x,(f x).cells.length=n):∀y,(l.map f)[0]? =some y->ln y.cells=n:=λy u=>by
 rw[zAh,zAo]at u;obtain⟨x,_,rfl⟩:=u;exact h x
def Y0 {β:Type} (f:α->β) (l:List α) (i:Nat) (hi:i<ln l):(l.map f)[i]? =some (f l[i]):=by simp[hi]
end
def W0 (TT:List TI) (z:List (Nat×AV)):Op->Option (List AV)
 | .buildSlice T len u=>match TT[T]? with
  | some ti=>match ti.d with
   | .slice e=>match TT[e]? with
    |some te=>bif cI 0 (u.toList.map (·.1))&&(Nat.beq (ln u.toList) len&&(Nat.ble 1 te.size&&(Nat.ble (len*te.size) 65536&&Nat.beq (ln te.zero) te.size)))then
     QS (u.toList.map λp=>yW (zL z) p.2) λxs=>bif xs.all (λx=>Nat.beq (ln x.cells) te.size&&(x.ok&&x.nokey))then some xs else none else none
    |none=>none
   |_=>none
  |none=>none
 |_=>none
section
variable {P:Program} {TT:List TI} (hP:qI P TT) {tm:List (Nat×AV)} {h:List (Nat×xM)}
include hP in
def Fb {xs:List AV} (u:W0 TT tm op=some xs):wZ P ⟨tm,h⟩ op (.sl true xs) [] [] []:=by
 unfold W0 at u;split at u
 .rename_i T len A;split at u
  .rename_i ti hT;split at u
   .rename_i e hd;split at u
    .rename_i te B;rw[gI]at u
     cases hc:(cI 0 (A.toList.map (·.1))&&(Nat.beq (ln A.toList) len&&(Nat.ble 1 te.size&&(Nat.ble (len*te.size) 65536&&Nat.beq (ln te.zero) te.size))))with
     |false=>rw[hc]at u;cases u
     | true=>
      rw[hc]at u;simp only[zBk]at u;generalize z:(A.toList.map λp=>yW (zL tm) p.2)=ys at u
      cases C:ys.all (λx=>Nat.beq (ln x.cells) te.size&&(x.ok&&x.nokey))with
      |false=>simp[C]at u
      | true=>
       simp only[C,zBk,zBw]at u;subst u;simp only[zAi]at hc;obtain⟨E,G,I,L,M⟩:=hc;refine QY hP hT hd B I ?_ (by rw[<-z];simpa using G) C L M;rw[<-z];apply zBe;intro j;simp only[bG,zAh,zD8,zBu]
       cases hj:A.toList[j]? with
       |none=>simp
       |some p=>
        have:=WE _ 0 E j p.1 (by simp[hj]);simp[this]
    .cases u
   .cases u
  .cases u
 .cases u
end
theorem wZ.wkS {xs:List AV} {d:List (Nat×xM)} {r nw:List Nat} (C:wZ P st op (.sl true xs) d r nw):wZ P st op (.sl false xs) d r nw:=
 ⟨λX E h h1 h2 A o a w β B u z=>by
  have:=C.run X E h h1 h2 A o a w β B u z;unfold WH at this⊢;split at this
  .obtain⟨β',G,hv⟩:=this;exact⟨β',G,hv.wk⟩
  .obtain⟨β',G,hv⟩:=this;exact⟨β',G,hv.wk⟩
  .exact this.mono λe w' ⟨c,he,β',G,hv⟩=>⟨c,he,β',G,hv.wk⟩
  .exact this.elim⟩
def ou (y:AV) (off:Nat) (cs:List AV):Option AV:=match y with
 | .agg u=>QS (UI u off cs) λl=>some (.agg l)
 |_=>match cs with
  | [v]=>Jh v some
  |_=>none
theorem nu {y:AV} {cs:List AV} {v:AV} (h:ou y off cs=some v):HO y off cs=v:=by
 unfold ou at h
 grind [ou,HO,gI,Option.some.inj,ZG]
section
variable {P:Program} {TT:List TI} {K0:List Nat} {F:Fr K0} {m:Nat} {ops:Array Oper} {rest:List Oper} {Q:List FP->St->Prop} {tm:List (Nat×AV)} {h:List (Nat×xM)} {dr:Bool} {fs:List FP}
variable {ty:Nat} {pos:String} {after:Array Edge} {t:Nat}
def yL {u:Array (Nat×Operand)} (hk:yP P F m ops dr (⟨some t,.buildSlice T len u,ty,pos,after,none⟩::rest) st fs Q):yP P F m ops dr (⟨some t,.buildSlice T len u,ty,pos,after,none⟩::rest) st fs Q:=hk
def fY (hk:yP P F m ops dr (⟨some t,.makeSlice T x y,ty,pos,after,none⟩::rest) st fs Q):yP P F m ops dr (⟨some t,.makeSlice T x y,ty,pos,after,none⟩::rest) st fs Q:=hk
def FA (hk:yP P F m ops dr (⟨some t,.nilCheck x,ty,pos,after,none⟩::rest) st fs Q):yP P F m ops dr (⟨some t,.nilCheck x,ty,pos,after,none⟩::rest) st fs Q:=hk
def We {x:Nat} {u:Array Nat} (hk:yP P F m ops dr (⟨some t,.call ⟨.value (.tmp x),asq,u⟩,ty,pos,after,none⟩::rest) st fs Q):yP P F m ops dr (⟨some t,.call ⟨.value (.tmp x),asq,u⟩,ty,pos,after,none⟩::rest) st fs Q:=hk
def wQ (u:qI P TT) {xs:List AV} (z:W0 TT tm op=some xs) (A:Nat.blt t m=true) (hk:yP P F m ops dr rest ⟨(t,.sl false xs)::tm,h⟩ (⟨true,[],[]⟩::fs) Q):
 yP P F m ops dr (⟨some t,op,ty,pos,after,none⟩::rest) ⟨tm,h⟩ fs Q:=wO (Fb u z).wkS A hk
def jE (B:qI P TT) {A:AV} {ys:List AV} (L:yW (zL tm) s= .s (.slice none 0 0)) (hx:yW (zL tm) x=A) (hT:TT[T]? =some ti) (hd:ti.d= .slice e) (C:TT[e]? =some te)
 (z:Oa (zD h) A=some ys) (u:∀y,ys[0]? =some y->ln y.cells=te.size) (I:Nat.ble 1 te.size=true) (hb:Nat.ble te.bytes 65536=true) (M:Nat.beq (ln te.zero) te.size=true) (G:ln ys<=1073741824) (E:Nat.blt t m=true)
 (hk:yP P F m ops dr rest ⟨(t,.sl false ys)::tm,h⟩ (⟨true,[],LI A⟩::fs) Q):yP P F m ops dr (⟨some t,.call ⟨.builtin .append, #[s,x], #[T,T]⟩,ty,pos,after,none⟩::rest) ⟨tm,h⟩ fs Q:=
 wO (QV B L hx hT hd C z u I hb M G) E hk
def xB (u:Nat) (I:qI P TT) {G:AV} {ys:List AV} (S:yW (zL tm) s= .s (.slice none 0 0)) (hx:yW (zL tm) x=G) (hT:TT[T]? =some ti) (hd:ti.d= .slice e) (L:TT[e]? =some te)
 (C:Oa (zD h) G=some ys) (B:∀y,ys[0]? =some y->ln y.cells=te.size) (R:Nat.ble 1 te.size=true) (hb:Nat.ble te.bytes 65536=true) (U:Nat.beq (ln te.zero) te.size=true) (O:ln ys<=1073741824) (M:Nat.blt t m=true) (z:(zD h u).isNone=true)
 (A:te.size=sz) (hk:yP P F m ops dr rest ⟨(t,.ref u 0 (ln ys))::tm,(u,.arr sz ys false)::h⟩ (⟨true,[u,u],LI G⟩::fs) Q) (E:te.zero.all (·.oneCell')=true:=by rfl):yP P F m ops dr (⟨some t,.call ⟨.builtin .append, #[s,x], #[T,T]⟩,ty,pos,after,none⟩::rest) ⟨tm,h⟩ fs Q:=by
 subst A;exact qH (nw:=[u]) (ZK I u S hx hT hd L C B R hb U E O) M (Of z) Z hk
def wU (E:qI P TT) {k:Nat} {C:AV} {ys:List AV} (O:yW (zL tm) s= .ref k 0 0) (hk:zD h k=some (.arr sz [] ⟨sb,false⟩)) (hx:yW (zL tm) x=C) (hT:TT[T]? =some ti) (hd:ti.d= .slice e) (G:TT[e]? =some te)
 (A:Oa (zD h) C=some ys) (z:∀y,ys[0]? =some y->ln y.cells=sz) (u:Nat.beq sz te.size=true) (hb:Nat.ble te.bytes 65536=true) (R:Nat.beq (ln te.zero) te.size=true) (L:ln ys<=1073741824) (I:Nat.blt t m=true)
 (M:yP P F m ops dr rest ⟨(t,.ref k 0 (ln ys))::tm,(k,.arr sz ys false)::h⟩ (⟨true,[k],k::LI C⟩::fs) Q) (B:te.zero.all (·.oneCell')=true:=by rfl):yP P F m ops dr (⟨some t,.call ⟨.builtin .append, #[s,x], #[T,T]⟩,ty,pos,after,none⟩::rest) ⟨tm,h⟩ fs Q:=
 qH (nw:=[]) (uB (xs:=[]) false false E O hk hx hT hd G (λ_=>rfl) A z u hb R B (by simpa using L) (λ_=>rfl)) I Z Z M
def qE (E:qI P TT) {k:Nat} {C:AV} {ys:List AV} (O:yW (zL tm) s= .ref k 0 0) (hk:zD h k=some (.arr sz [] sl)) (hx:yW (zL tm) x=C) (hT:TT[T]? =some ti) (hd:ti.d= .slice e) (G:TT[e]? =some te)
 (A:UN true (zD h) C=some ys) (z:∀y,ys[0]? =some y->ln y.cells=sz) (u:Nat.beq sz te.size=true) (hb:Nat.ble te.bytes 65536=true) (R:Nat.beq (ln te.zero) te.size=true) (L:ln ys<=1073741824) (I:Nat.blt t m=true)
 (M:yP P F m ops dr rest ⟨(t,.ref k 0 (ln ys))::tm,(k,.arr sz ys ⟨false,true⟩)::h⟩ (⟨true,[k],k::LI C⟩::fs) Q) (B:te.zero.all (·.oneCell')=true:=by rfl):yP P F m ops dr (⟨some t,.call ⟨.builtin .append, #[s,x], #[T,T]⟩,ty,pos,after,none⟩::rest) ⟨tm,h⟩ fs Q:=
 qH (nw:=[]) (uB (xs:=[]) false true E O hk hx hT hd G (λh=>by cases h) A z u hb R B (by simpa using L) (λ_=>rfl)) I Z Z M
def qn (I:qI P TT) {p:Operand} {k:Nat} {xs:List AV} {y v A:AV} {u:Bool} (M:yW (zL tm) p= .ptr k i off) (hx:yW (zL tm) x=v) (hk:zD h k=some (.arr sz xs ⟨false,u⟩)) (R:xs[i]? =some y) (hT:TT[T]? =some ti)
 (h1:v.ok=true) (h2:Nat.beq (ln v.cells) ti.size=true) (B:Nat.ble (off+ti.size) (ln y.cells)=true) (C:(u||v.nokey)=true) (E:Nat.ble 1 ti.size=true) (G:v.cells.all (λv=>!v.isAgg)=true) (L:ou y off v.cells=some A)
 (O:yP P F m ops dr rest ⟨tm,(k,.arr sz (xs.set i A) ⟨false,u⟩)::h⟩ (⟨true,[k],[k]⟩::fs) Q):yP P F m ops dr (⟨none,.store T p x,ty,pos,after,none⟩::rest) ⟨tm,h⟩ fs Q:=by
 have z:=XP (st:=⟨tm,h⟩) I M hx hk R hT h1 h2 B C E G;rw[nu L]at z;exact O8 (nw:=[]) z Z Z O
theorem bn (I:qI P TT) {p:Operand} {k:Nat} {xs z cs:List AV} {u:Bool} (L:yW (zL tm) p= .ptr k i 0) (hx:yW (zL tm) x= .agg cs) (hk:zD h k=some (.arr sz xs ⟨false,u⟩)) (O:xs[i]? =some (.agg z)) (hT:TT[T]? =some ti)
 (h2:Nat.beq (ln cs) ti.size=true) (B:Nat.beq ti.size (ln z)=true) (C:(u||(AV.agg cs).nokey)=true) (E:Nat.ble 1 ti.size=true) (G:cs.all (λv=>!v.isAgg)=true)
 (M:yP P F m ops dr rest ⟨tm,(k,.arr sz (xs.set i (.agg cs)) ⟨false,u⟩)::h⟩ (⟨true,[k],[k]⟩::fs) Q):yP P F m ops dr (⟨none,.store T p x,ty,pos,after,none⟩::rest) ⟨tm,h⟩ fs Q:=by
 have R:=zA3 h2;have e3:=zA3 B;have A:=XP (st:=⟨tm,h⟩) I L hx hk O hT Z (by simpa [AV.cells]using h2) (zDf (by simp[AV.cells];omega)) C E G
 have:HO (.agg z) 0 (AV.agg cs).cells= .agg cs:=by
  unfold HO AV.cells;dsimp only
  congr 1
  apply zBe;intro j;rw[YO _ _ _ _ (by omega)]
  grind
 rw[this]at A;exact O8 (nw:=[]) A Z Z M
theorem wV.nsplit (H:wV F m ⟨tm,h⟩ a w) {t:Nat} {xs:List AV} (hv:zL tm t= .sl false xs):(∃cap,xs=[]/\wV F m ⟨(t,.s (.slice none 0 cap))::tm,h⟩ a w)\/wV F m ⟨(t,.sl true xs)::tm,h⟩ a w:=by
 obtain⟨⟨X,β,G,z,A,B,M,C⟩,L,gs,hl⟩:=H
 have key:∀v,(∀i,v≠ .gh i)->yF w (xT X β) (zD h) β v (a.eval (.tmp t))->wV F m ⟨(t,v)::tm,h⟩ a w:=λv O hv=>by
  refine⟨⟨X,β,G,z,λj=>?_,B,λi hi=>?_,C⟩,L,gs,hl⟩
  all_goals grind [wV,zL,xL]
 have h0:=A t;dsimp only at h0;rw[hv]at h0;generalize hc:a.eval (.tmp t)=c at*
 cases h0 with
 | fz _ _ I=>
  cases I with
  |nil b cap=>
   cases b with
   |none=>exact .inl ⟨cap,rfl,key _ (λ_ h=>by cases h) (.fz _ _ (.s _))⟩
   |some b=>exact .inr (key _ (λ_ h=>by cases h) (.fz _ _ (.nil1 b cap)))
  |sl _ _ b o sz cap f hx E u hh=>exact .inr (key _ (λ_ h=>by cases h) (.fz _ _ (.sl true _ b o sz cap f hx E u hh)))
def xW {Q:Exit->St->Prop} (t:Nat) {xs:List AV} (hv:zL tm t= .sl false xs) (h1:∀cap,xs=[]->uG P F m c ⟨(t,.s (.slice none 0 cap))::tm,h⟩ Q) (h2:uG P F m c ⟨(t,.sl true xs)::tm,h⟩ Q):uG P F m c ⟨tm,h⟩ Q:=
 ⟨λa w H=>by
  rcases H.nsplit hv with⟨cap,hx,u⟩|z
  .exact(h1 cap hx).run a w u
  .exact h2.run a w z⟩
end
section
variable {P:Program} {K0:List Nat} {F:Fr K0} {m:Nat} {tm:List (Nat×AV)} {h:List (Nat×xM)}
def Eb {h:yM} (H:jW X h β w) {K:Nat} (C:h K=none) (G:1<=sz):xX X w h β w (over [(K,.arr sz [] false)] h) (cT β K []):=
 xX.step H K _ _ (zAe _) (λ_ _ _=>rfl) Z Z Z (λb n u=>by simp at u) (λ_ _ _=>rfl) (λe A=>by rw[C]at A;cases A) (λE=>⟨G,by simp,λh=>absurd Z h,λi y z=>by simp at z,
  λb n r B=>by rw[yJ]at B;simp at B,λ_ _=>undef,λi y j v z _=>by simp at z,λi j hi _=>by simp at hi,λb n u=>by rw[yJ]at u;simp at u⟩)
theorem wV.virtF (H:wV F m ⟨tm,h⟩ a w) (t K sz:Nat) {cap:Nat} (hv:zL tm t= .s (.slice none 0 0)) (I:(zD h K).isNone=true) (M:Nat.ble 1 sz=true):wV F m ⟨(t,.ref K 0 0)::tm,(K,.arr sz [] false)::h⟩ a w:=by
 obtain⟨⟨X,β,L,z,A,B,E,C⟩,O,gs,hl⟩:=H;have hk:zD h K=none:=by simpa using I
 have G:=Eb z hk (zAq M);have u:∀k,over [(K,.arr sz [] false)] (zD h) k≠some .dead:=cK Z O
 have R:TY F m (zL ((t,.ref K 0 0)::tm)) (over [(K,.arr sz [] false)] (zD h)) a w:=by
  refine⟨⟨X,_,L,G.hok,λj=>?_,B.goes G u (G.lives z u),λi hi=>?_,C.goes z G⟩,u,gs,hl⟩
  .rw[xL];split
   .rename_i hj;subst hj;have:=A j;rw[hv]at this;rw[this.s_inv];exact .ref0 K 0 sz [] false none (qO _ _ _) (zAe _)
   .exact(A j).evo G.evo
  .rw[xL]at hi;split at hi
   .cases hi
   .exact F.go G (E i hi)
 unfold wV;dsimp only;rw[show zD ((K,.arr sz [] false)::h)=over [(K,.arr sz [] false)] (zD h)from vQ [(K,.arr sz [] false)] h];exact R
def uN (t K sz:Nat) (hv:zL tm t= .s (.slice none 0 0)) (u:(zD h K).isNone=true) (z:Nat.ble 1 sz=true) (hk:uG P F m c ⟨(t,.ref K 0 0)::tm,(K,.arr sz [] false)::h⟩ Q):uG P F m c ⟨tm,h⟩ Q:=
 ⟨λa w H=>hk.run a w (H.virtF (cap:=0) t K sz hv u z)⟩
end
structure aT (X X':Nat->Prop) (W W':World):Prop where
 size:W.heap.size<=W'.heap.size
 fz:∀b,b<W.heap.size->¬X b->W'.heap[b]? =W.heap[b]? /\¬X' b
 sup:∀b,X b->X' b
 lt:∀b,X' b->b<W'.heap.size
 os:W'.os=W.os
 tape:W'.tape=W.tape
 output:W'.output=W.output
def v8 (P:Program) (F:Fr K0) (l:Nat) (xs:List (List AV)):Prop:=
 ∀(i:Nat) (ys:List AV) (X O:Nat->Prop) (W:World) (cs:Array Value),xs[i]? =some ys->F.J i O X W->cs.size=ln ys->(∀(j:Nat) v,ys[j]? =some v->xF W (λb=>X b\/O b) v (cs.getD j undef))->
  YieldAt Fence.wide 0 P l cs W λe u=>(e= .returned (.bool true)/\∃X',aT X X' W u/\F.J (i+1) O X' u)\/(e= .returned (.bool false)/\∃X',aT X X' W u/\F.J (ln xs+1+i) O X' u)
section
variable {X X':Nat->Prop} {W W':World} {h:yM} {β:uH}
theorem aT.evo (H:jW X h β W) (q:aT X X' W W'):DA W (xT X β) h β W' (xT X' β) h β:=
 ⟨q.size,λb hb hd=>⟨(q.fz b hb λhx=>hd (.inl hx)).1,λh'=>h'.elim (q.fz b hb λhx=>hd (.inl hx)).2 λz=>hd (.inr z)⟩,λk b n u=>by
  unfold wW World.shape?
  rw[(q.fz b (H.lt b (.inr ⟨k,n,u⟩)) (H.free k b n u)).1],kY h β⟩
theorem aT.hok (H:jW X h β W) (q:aT X X' W W'):jW X' h β W':=
 ⟨λk e z=>(H.ent k e z).evo (q.evo H) Z λb n u=>(q.fz b (H.lt b (.inr ⟨k,n,u⟩)) (H.free k b n u)).1,H.off,H.disj,λk b n u=>(q.fz b (H.lt b (.inr ⟨k,n,u⟩)) (H.free k b n u)).2,
  λb hd=>hd.elim (q.lt b) λA=>zBg (H.lt b (.inr A)) q.size⟩
end
section
variable {P:Program} {K0:List Nat} {F:Fr K0} {m:Nat} {ops:Array Oper} {rest:List Oper} {tm:List (Nat×AV)} {h:List (Nat×xM)}
theorem TY.quiet {X':Nat->Prop} {hh:yM} {t:Nat->AV} {W A:World} {j:Nat} (G:F.it=true) (S:∀b,F.X b->F.V b) (B:P3 F X) (H:jW X hh β W) (O:∀s,yF W (xT X β) hh β (t s) (a.eval (.tmp s))) (u:gQ F hh β W) (R:Bx X F a.defers W) (nd:∀k,hh k≠some .dead) (gs:m<=GS) (hl:a.tmps.size=m)
 (q:aT X X' W A) (hj:F.J j (Uf β) X' A) (d:Nat) (hd:d<m) (b:Bool):TY F m (λs=>if s=GS then .gh j else if s=d then .s (.bool b)else t s) hh (a.put (some d) (.bool b)) A:=by
 have E:=q.evo H;refine⟨⟨X',β,⟨λc hc=>q.sup c (B.1 c hc),λc hc=>?_⟩,q.hok H,λs=>?_,?_,λi hi=>?_,?_⟩,nd,gs,by simp[Act.put,hl]⟩
 .by_cases hb:c<W.heap.size
  .by_cases z:X c
   .exact B.2 c z
   .exact absurd hc (q.fz c hb z).2
  .exact .inr (zBf u.size (Nat.le_of_not_lt hb))
 .split
  .exact .fz _ _ (.gh _ _)
  .split
   .rename_i L;subst L;have:s<a.tmps.size:=by rw[hl];exact hd
    have e:(a.put (some s) (.bool b)).eval (.tmp s)= .bool b:=by simp[Act.put,Act.eval,this]
    rw[e];exact .fz _ _ (.s _)
   .rename_i L;rw[Act.eval_put (λd' C e=>L (by cases C;injection e with e))];exact(O s).evo E
 .exact⟨u.knd,zBf u.size q.size,λc hc hi U=>by
   have h1:¬X c:=λhx=>(B.2 c hx).elim (λh=>hi (S c h)) λh=>by omega
   rw[(q.fz c (zBg hc u.size) h1).1]
   exact u.keep c hc hi U,u.own,u.pas,λk c n M=>by
   obtain⟨Y,_,I⟩:=u.pas k c n M
   rw[E.bs k c Y I,u.bs k c n M],q.os.trans u.os,q.tape.trans u.tape,q.output.trans u.output⟩
 .grind
 .obtain⟨bs,h1,h0,h2,h3⟩:=R;have:=h0 G;subst this;exact⟨[],h1,λ_=>rfl,h2,λb hb=>by simp at hb⟩
def Fg {xs:List (List AV)} {ys:List AV} {l y t:Nat} {C:Array Nat} {pos:String} {u:Array Edge} {Q:St->Prop} (z:F.it=true/\∀b,F.X b->F.V b) (hY:v8 P F l xs) (hy:zL tm y= .s (.func (.yield l) #[] #[])) (hg:zL tm GS= .gh i) (S:xs[i]? =some ys)
 (B:asq.toList.map (yW (zL tm))=ys) (L:wM ys=true) (hm:Nat.blt t m=true)
 (h1:IS P F m ops rest ⟨(GS,.gh (i+1))::(t,.s (.bool true))::tm,h⟩ Q) (h2:IS P F m ops rest ⟨(GS,.gh (ln xs+1+i))::(t,.s (.bool false))::tm,h⟩ Q):
  IS P F m ops (⟨some t,.call ⟨.value (.tmp y),asq,C⟩,ty,pos,u,none⟩::rest) ⟨tm,h⟩ Q:=λa w H=>by
 obtain⟨⟨X,β,hX,W,I,Y,hJ,hD⟩,nd,gs,hl⟩:=H;have hj:=hJ i hg
 have U:a.eval (.tmp y)= .func (.yield l) #[] #[]:=by
  have:=I y;dsimp only at this;rw[hy]at this;exact this.s_inv
 have E:ln asq.toList=ln ys:=by rw[<-B];simp
 obtain⟨fn,tmps,assign,body,G,A⟩:=hY i ys X (Uf β) w (asq.map a.eval) S hj (by simpa using E) (λj v hv=>by
  rw[<-B,zAh,zAo]at hv;obtain⟨x,hx,rfl⟩:=hv;have O:asq[j]? =some x:=by simpa using hx
  have e:(asq.map a.eval).getD j undef=a.eval x:=by simp[zA4,O]
  rw[e];have M:(ys[j]?)=some (yW (zL tm) x):=by rw[<-B];simp[hx]
  exact(PN I x).toF (kZ L M))
 refine wpListIn_plain Z λK hK=>⟨λ_ _=>trivial,?_⟩
 have he:((⟨some t,.call ⟨.value (.tmp y),asq,C⟩,ty,pos,u,none⟩:Oper).semAt (EP F.ro).round a.eval).run P w= .ok (.round l fn tmps assign body) w:=by
  rw[Oper.semAt_eq _ _ _ (λc hc=>by cases hc)];rw[<-G];simp[execOp,resolve,U,Deferred.ofValue,invoke]
 rw[he];refine⟨λhx=>by simp[EP,Fence.wide]at hx,?_⟩;refine RoundIn.mono (F:=Fence.wide) A ?_;rintro e W' (⟨rfl,X',q,hj'⟩|⟨rfl,X',q,hj'⟩)
 .refine hK _ _ (h1 _ _ ?_);have R:=TY.quiet z.1 z.2 hX W I Y hD nd gs hl q hj' t (zAq hm) true;unfold wV;refine R.congr (λs=>?_) (λ_=>rfl);rw[xL,xL]
 .refine hK _ _ (h2 _ _ ?_);have R:=TY.quiet z.1 z.2 hX W I Y hD nd gs hl q hj' t (zAq hm) false;unfold wV;refine R.congr (λs=>?_) (λ_=>rfl);rw[xL,xL]
def FB {xs:List (List AV)} {ys:List AV} {l y t:Nat} {z:Array Nat} {pos:String} {u:Array Edge} {fs:List FP} {Q:List FP->St->Prop} (A:F.it=true/\∀b,F.X b->F.V b) (G:v8 P F l xs) (M:zL tm y= .s (.func (.yield l) #[] #[])) (I:zL tm GS= .gh i) (E:xs[i]? =some ys)
 (C:asq.toList.map (yW (zL tm))=ys) (B:wM ys=true) (L:Nat.blt t m=true)
 (h1:yP P F m ops false rest ⟨(GS,.gh (i+1))::(t,.s (.bool true))::tm,h⟩ fs Q) (h2:yP P F m ops false rest ⟨(GS,.gh (ln xs+1+i))::(t,.s (.bool false))::tm,h⟩ fs Q):
 yP P F m ops false (⟨some t,.call ⟨.value (.tmp y),asq,z⟩,ty,pos,u,none⟩::rest) ⟨tm,h⟩ fs Q:=⟨Fg A G M I E C B L h1.run h2.run⟩
end
structure TF (P:Program) (f:Nat) (caps:List AV) (h0:List (Nat×xM)) (xs:List (List AV)):Prop where
 able:bD P f
 sim:∀(l:Nat) (cv:Array Value) (F:Fr (yV h0)),(F.it=true/\∀b,F.X b->F.V b)->F.ro=none->F.h0=zD h0->cv.size=caps.length->jW F.X (zD h0) F.β0 F.w0->(∀(i:Nat) v,caps[i]? =some v->yF F.w0 (xT F.X F.β0) (zD h0) F.β0 v (cv.getD i undef))->
  F.J 0 (Uf F.β0) F.X F.w0->v8 P F l xs->Calls P f (#[.func (.yield l) #[] #[]]++cv) F.w0 λe w'=>(∃v,e= .returned v)/\∃i O X,F.J i O X w'/\(i=xs.length\/xs.length<i)
def V0 (n:Nat) (e:Exit) (st:St):Prop:=(e= .normal\/e= .ret)/\∃i,zL st.tm GS= .gh i/\(i=n\/n<i)
def TG (h:zL st.tm GS= .gh i) (hi:i=n\/n<i):V0 n .ret st:=⟨.inr Z,i,h,hi⟩
def ZY (h:zL st.tm GS= .gh i) (hi:i=n\/n<i):V0 n .normal st:=⟨.inl Z,i,h,hi⟩
theorem VJ {f:Nat} {fn:Func} {u:List AV} {xs:List (List AV)} (hf:P.funcs[f]? =some fn) (hb:fn.body=some body) (C:bD P f) (z:Nat.ble (ln u+1) fn.ntmps=true) (M:fn.results= #[])
 (L:vZ h0=true) (h:∀(F:Fr (yV h0)) (l:Nat),F.ro=none->(F.it=true/\∀b,F.X b->F.V b)->v8 P F l xs->uG P F fn.ntmps body ⟨(GS,.gh 0)::UA 0 (.s (.func (.yield l) #[] #[])::u),h0⟩ (V0 (ln xs))) (ac:Nat.ble fn.ntmps GS=true:=by rfl):TF P f u h0 xs:=by
 refine⟨C,λl E F I R ag ap H A hj hY=>(callsIn_wide (n:=0)).1 ?_⟩;have z:=zAq z;have hw:∀(c:Code) Q a w,c.wpIn (EP F.ro) 0 P Q a w->c.wpIn Fence.wide 0 P Q a w:=λc Q a w h=>by rw[R]at h;exact h
 refine callsIn_of_wp_marks (F:=Fence.wide) (n:=0) hf hb trivial (hw _ _ _ _ (Code.wpIn_mono (λe a' w1 q=>?_) ((h F l R I hY).run _ F.w0 ⟨⟨F.X,F.β0,⟨λ_ h=>h,λ_ h=> .inl h⟩,H,λt=>?_,⟨λk e B=>?_,zAe _,λ_ _ _ _=>rfl,λk b n hm=> .inl ⟨k,n,hm⟩,λk b n hm=>⟨n,zAe _,hm⟩,λ_ _ _ _=>rfl,rfl,rfl,rfl⟩,λi hi=>?_,[],rfl,λ_=>rfl,zEv,λb hb=>by simp at hb⟩,λk=>qL L,zAq ac,?_⟩))) Z
 .obtain⟨st,⟨B,i,hi,hn⟩,⟨⟨X2,β2,_,_,_,_,S,bs,Y,W,_⟩,_,_,_⟩⟩:=q;have U:=W I.1;subst U
  have G:LeavesInM Fence.wide 0 P fn a'.tmps (λe w'=>(∃v,e= .returned v)/\∃i O X,F.J i O X w'/\(i=ln xs\/xs.length<i)) a'.defers .returning w1:=by
   rw[Y];refine⟨.tuple #[],by simp[results,M],⟨_,rfl⟩,i,_,_,S i hi,hn⟩
  rcases B with rfl|rfl
  all_goals exact G
 .dsimp only;rw[xL];split
  .exact .fz _ _ (.gh _ _)
  .rw [XZ,Os (zAn _),zFs]
   cases t with
   | zero=>
    have e:Act.eval {tmps:= #[Value.func (.yield l) #[] #[]]++E++Array.replicate (fn.ntmps-(#[Value.func (.yield l) #[] #[]]++E).size) undef,defers:=[]} (.tmp 0)= .func (.yield l) #[] #[]:=by
     simp[Act.eval,zA4,Array.getElem?_append]
    rw[e];exact .fz _ _ (.s _)
   | succ t=>
    rw[List.getD_cons_succ];by_cases ht:t<ln u
    .have h2:u[t]? =some (u.getD t .bot):=by simp[pi,ht]
     have e:Act.eval {tmps:= #[Value.func (.yield l) #[] #[]]++E++Array.replicate (fn.ntmps-(#[Value.func (.yield l) #[] #[]]++E).size) undef,defers:=[]} (.tmp (t+1))=E.getD t undef:=by
      simp only[Act.eval,zA4];rw[zCm qM,zEy yE];simp
     rw[e];exact A t _ h2
    .have:u.getD t .bot= .bot:=by simp[pi,zBj (by omega:ln u<=t)]
     rw[this];exact .fz _ _ (.bot _)
 .rw[ag]at B
  cases e with
  |dead=>exact absurd B (qL L)
  |box cs=>exact⟨cs,B⟩
  |obj cs=>exact⟨cs,B⟩
  |arr sz xs sl=>exact⟨xs,sl,B,zAe _⟩
 .dsimp only at hi;rw[xL,Os Z]at hi;cases hi;exact hj
 .simp;omega
def βr (K:List Nat) (β:uH):uH:=λk=>if k∈K then β k else []
def XU {K:List Nat} {k:Nat} (h:k∈K):βr K β k=β k:=by simp[βr,h]
theorem kA {K:List Nat} {k b:Nat} (h:(b,n)∈βr K β k):k∈K/\(b,n)∈β k:=by
 unfold βr at h
 grind
theorem Y9 {Xc:Nat->Prop} (I:jW X h β w) (G:∀k,k∈yV h0->h k=zD h0 k) (z:∀k e,zD h0 k=some e->fw (yV h0) e=true)
 (M:∀b,Xc b->X b\/∃k n,¬k∈yV h0/\(b,n)∈β k):
  jW Xc (zD h0) (βr (yV h0) β) w/\∀v c,yF w (xT X β) h β v c->(∀k,k∈v.refs->k∈yV h0)->yF w (xT Xc (βr (yV h0) β)) (zD h0) (βr (yV h0) β) v c:=by
 have B:∀k,k∈yV h0->βr (yV h0) β k=β k:=λk hk=>XU hk
 have E:∀b,xT Xc (βr (yV h0) β) b->xT X β b:=λb hd=>by
  rcases hd with hx|⟨k,n,C⟩
  .exact(M b hx).imp id λ⟨k,n,_,C⟩=>⟨k,n,C⟩
  .exact .inr ⟨k,n,(kA C).2⟩
 have A:∀v c,yF w (xT X β) h β v c->(∀k,k∈v.refs->k∈yV h0)->yF w (xT Xc (βr (yV h0) β)) (zD h0) (βr (yV h0) β) v c:=by
  intro v c hv;have ef:∀{v c},xF w (xT X β) v c->xF w (xT Xc (βr (yV h0) β)) v c:=λR=>R.evo (zAe _) λb _ hd=>⟨rfl,λh'=>hd (E b h')⟩
  induction hv with
  |fz v c R=>exact λ_=> .fz _ _ (ef R)
  |agg cs c hl h1 _ U=>exact λu=> .agg cs c hl h1 λi v hv=>U i v hv λk hk=>u k (by simpa [AV.refs]using wT hv hk)
  |fn f L c hl _ U=>exact λu=> .fn f L c hl λi v hv=>U i v hv λk hk=>u k (by simpa [AV.refs]using wT hv hk)
  |tup vs c hl _ U=>exact λu=> .tup vs c hl λi v hv=>U i v hv λk hk=>u k (by simpa [AV.refs]using wT hv hk)
  |dref k off len c hk h1=>exact λu=> .dref _ _ _ _ ((G k (u k (by simp[AV.refs])))▸hk) h1
  |dptr k i off c hk h1=>exact λu=> .dptr _ _ _ _ ((G k (u k (by simp[AV.refs])))▸hk) h1
  |ref k off len sz xs st b n cap hk hb S hc hs=>exact λu=> .ref k off len sz xs st b n cap ((G k (u k (by simp[AV.refs])))▸hk) (by rw[B k (u k (by simp[AV.refs]))];exact hb) S hc hs
  |ref0 k off sz xs st a hk S=>exact λu=> .ref0 k off sz xs st a ((G k (u k (by simp[AV.refs])))▸hk) S
  |pbox k off cs b n hk hb=>exact λu=> .pbox k off cs b n ((G k (u k (by simp[AV.refs])))▸hk) (by rw[B k (u k (by simp[AV.refs]))];exact hb)
  |parr k i off sz xs st b n hk hb hi ho=>exact λu=> .parr k i off sz xs st b n ((G k (u k (by simp[AV.refs])))▸hk) (by rw[B k (u k (by simp[AV.refs]))];exact hb) hi ho
 refine⟨⟨λk e O=>?_,λk O=>?_,λk Y b n n' q1 q2=>I.disj _ _ _ _ _ (kA q1).2 (kA q2).2,λk b n C hx=>?_,λb hd=>I.lt b (E b hd)⟩,A⟩
 .have hk:=vW O
  refine(I.ent k e ((G k hk).trans O)).lift (B k hk) (λcs V i v c hi hv=>A v c hv λj hj=>by
   have:=z k e O;rw[V]at this
   simpa using zAm.1 this j (wT hi hj)) λsz xs fl W i x j v c hi hj=>⟨λR=>R.evo (zAe _) λb _ hd=>⟨rfl,λh'=>hd (E b h')⟩,λS hv=>A v c hv λq hq=>by
   have:=z k e O;rw[W]at this;simp only[fw,S,zBk]at this
   simpa using zAm.1 this q (wT hi (XY hj hq))⟩
 .unfold βr;rw[hW];intro hk;obtain⟨e,hk⟩:=bE hk
  grind
 .obtain⟨hk,C⟩:=kA C
  rcases M b hx with hx|⟨Y,n',hk',hm'⟩
  .exact I.free k b n C hx
  .exact hk' (I.disj k Y b n n' C hm'▸hk)
def RF (h:yM):Prop:=∀k sz xs fl,h k=some (.arr sz xs fl)->fl.nest=false
def A3:List (Nat×xM)->Bool
 | []=>true
 |(_,e)::r=>match e with
  | .arr _ _ fl=>!fl.nest&&A3 r
  |_=>A3 r
theorem an:∀{h:List (Nat×xM)},A3 h=true->RF (zD h)
 | [],_,k,sz,xs,fl,u=>by simp[zD]at u
 | (j,e)::r,hn,k,sz,xs,fl,u=>by
  rw[xV]at u;split at u
  .cases u;simp[A3]at hn;exact hn.1
  .refine an (h:=r) ?_ k sz xs fl u
   cases e with
   |arr _ _ _=>simp[A3]at hn;exact hn.2
   |_=>exact hn
theorem mu (nn:RF h) (K:List Nat):∀v:AV,qC K h v=wR K h v:=by
 intro v;refine AV.rec (motive_1:=λv=>qC K h v=wR K h v) (motive_2:=λcs=>wS K h cs=qG K h cs) ?_ ?_ ?_ ?_ ?_ ?_ ?_ ?_ ?_ ?_ ?_ ?_ ?_ ?_ v
 .rfl
 .exact λ_=>rfl
 .exact λ_=>rfl
 .simp_all [yM,RF,qC,wR]
 .exact λ_ _ _=>rfl
 .exact λ_ _ _=>rfl
 .intro k off len;simp only[qC,wR]
  cases K.contains k with
  |true=>rfl
  |false=>
   simp only[zB9];split
   .rename_i xs fl u;rw[nn _ _ _ _ u];rfl
   .rfl
 .intro k i off;rfl
 .exact λ_ _ _ _=>rfl
 .simp_all [yM,RF,qC,wR]
 .simp_all [yM,RF,qC,wR]
 .exact λ_ _=>rfl
 .rfl
 .exact λv r h1 h2=>by simp only[wS,qG];rw[h1,h2]
theorem jW.restrX {X':Nat->Prop} (H:jW X h β w) (K L:List Nat) (hx:∀b,X' b->X b\/∃k n,k∈L/\(b,n)∈β k) (M:∀k,k∈L->¬k∈K) (nn:RF h)
 (O:∀k cs,k∈K->h k=some (.box cs)->∀j,j∈jH cs->¬j∈L):
  jW X' (zD (vD K h)) (βr K β) w/\∀v c,(∀j,j∈v.refs->¬j∈L)->yF w (xT X β) h β v c->yF w (xT X' (βr K β)) (zD (vD K h)) (βr K β) (wR K h v) c:=by
 have C:∀b,xT X' (βr K β) b->xT X β b:=λb hd=>by
  rcases hd with hb|⟨k,n,A⟩
  .exact(hx b hb).imp id λ⟨k,n,_,A⟩=>⟨k,n,A⟩
  .exact .inr ⟨k,n,(kA A).2⟩
 have hv:∀v c,(∀j,j∈v.refs->¬j∈L)->yF w (xT X β) h β v c->yF w (xT X' (βr K β)) (zD (vD K h)) (βr K β) (wR K h v) c:=λv c hr hv=>by
  rw[<-mu nn];refine yF.fz0 H (K:=K) (λk hk e B=>?_) (λk hk=>XU hk) (λb _ hd h'=>hd (C b h')) hv λk R=>?_
  .rw[wI,Os hk,B]
   cases e with
   |box cs=>exact⟨_,rfl⟩
   |obj cs=>exact⟨_,rfl⟩
   |arr sz xs fl=>exact⟨xs,fl,by simp only[zB8,qD,nn _ _ _ _ B,zB9],rfl⟩
   |dead=>rfl
  .by_cases hk:k∈K
   .exact .inl hk
   .refine .inr λb n A=>?_
    rintro(hb|⟨G,I,z⟩)
    .rcases hx b hb with hb|⟨G,I,hk',z⟩
     .exact H.free k b n A hb
     .exact hr k R (H.disj k G b n I A z▸hk')
    .obtain⟨hk',z⟩:=kA z;exact hk (H.disj k G b n I A z▸hk')
 have W:∀{v c},xF w (xT X β) v c->xF w (xT X' (βr K β)) v c:=λhf=>hf.evo (zAe _) λb _ hd=>⟨rfl,λh'=>hd (C b h')⟩
 refine⟨⟨λk e B=>?_,λk B=>?_,λk G b n I h1 h2=>H.disj _ _ _ _ _ (kA h1).2 (kA h2).2,λk b n A hb=>?_,λb hd=>H.lt b (C b hd)⟩,hv⟩
 .rw[wI]at B;split at B
  .rename_i hk;rw[zAo]at B;obtain⟨S,E,rfl⟩:=B;have:=H.ent k S E
   cases S with
   |dead=>show βr K β k=[];rw[XU hk];exact this
   |box cs=>
    obtain⟨b,c,Y,h1,h2,h3,h4,h5⟩:=this;refine⟨b,c,Y,by rw[XU hk];exact h1,h2,by rw[vS];exact h3,h4,λi v hi=>?_⟩;rw[bV,zAo]at hi;obtain⟨u,V,rfl⟩:=hi;exact hv u _ (λj hj=>O k cs hk E j (wT V hj)) (h5 i u V)
   |obj cs=>
    exact⟨by rw[XU hk];exact this.1,this.2⟩
   |arr sz xs st=>
    obtain⟨g1,g2,g3,g4,g5,f,g6,g7,g8⟩:=this;have U:=nn _ _ _ _ E;rw[show qD K h (.arr sz xs st)= .arr sz xs st by simp only[qD,U,zB9]];exact⟨g1,g2,by rw[XU hk];exact g3,g4,by rw[XU hk];exact g5,f,.ofF λi x j v hx hy=>W (g6.toF U i x j v hx hy),g7,by rw[XU hk];exact g8⟩
  .cases B
 .unfold βr;split
  .rename_i hk;rw[wI,Os hk]at B
   cases hk':h k with
   |none=>exact H.off k hk'
   |some e=>simp[hk']at B
  .rfl
 .obtain⟨hk,A⟩:=kA A
  rcases hx b hb with hb|⟨G,I,hk',z⟩
  .exact H.free k b n A hb
  .exact M G hk' (H.disj k G b n I A z▸hk)
theorem pn (K:List Nat) (h h':yM):∀v:AV,wR K h' (wR K h v)=wR K h v:=by
 intro v;refine AV.rec (motive_1:=λv=>wR K h' (wR K h v)=wR K h v) (motive_2:=λcs=>qG K h' (qG K h cs)=qG K h cs) ?_ ?_ ?_ ?_ ?_ ?_ ?_ ?_ ?_ ?_ ?_ ?_ ?_ ?_ v
 .rfl
 .exact λ_=>rfl
 .exact λ_=>rfl
 .simp_all [yM,wR]
 .exact λ_ _ _=>rfl
 .exact λ_ _ _=>rfl
 .intro k off len;simp only[wR]
  cases hc:K.contains k with
  |true=>simp only[zBk,wR,hc]
  | false=>
   simp only[zB9]
   rcases h k with _|(_|⟨_,xs,fl⟩|_|_)
   .rfl
   .rfl
   .dsimp only
    cases fl.nest with
    |false=>rfl
    |true=>
     simp only[zBk]
     cases wM (wS K h xs)<;>rfl
   .rfl
   .rfl
 .intro k i off;simp only[wR]
  cases hc:K.contains k with
  |true=>simp only[zBk,wR,hc]
  |false=>rfl
 .exact λ_ _ _ _=>rfl
 .simp_all [yM,wR]
 .simp_all [yM,wR]
 .exact λ_ _=>rfl
 .rfl
 .exact λv r h1 h2=>by simp only[qG];rw[h1,h2]
section
variable {K0:List Nat} {F:Fr K0} {h:yM} {β:uH} {w w':World} {X:Nat->Prop}
theorem gQ.toGoes (O:∀b,¬F.V b) (I:jW F.X F.h0 F.β0 F.w0) (H:jW X h β w) (K:gQ F h β w) (S:∀k,F.h0 k≠some .dead):xX X F.w0 F.h0 F.β0 w h β where
 size:=K.size
 keep b hb hn:=K.keep b hb (O b) hn
 own:=K.own
 bs:=K.bs
 key k e he:=by
  refine .inr ?_;have h1:=K.knd k e he
  cases e with
  |dead=>exact absurd he (S k)
  |box L=>
   obtain⟨A,h2⟩:=h1;refine⟨⟨_,h2⟩,λb n z=>?_⟩;obtain⟨R,C,u⟩:=K.pas k b n z;obtain⟨W,_,_,B,_⟩:=H.ent k _ h2;obtain⟨U,_,_,e1,_⟩:=I.ent k _ he;rw[e1]at z;rw[B]at u⊢;simp at z u⊢;exact⟨u.1,z.2⟩
  |obj cs=>
   obtain⟨A,h2⟩:=h1;refine⟨⟨_,h2⟩,λb n z=>?_⟩;obtain⟨R,C,u⟩:=K.pas k b n z;have B:=(H.ent k _ h2).1;have e1:=(I.ent k _ he).1;rw[e1]at z;rw[B]at u⊢;simp at z u⊢;exact⟨u.1,z.2⟩
  |arr sz xs sl=>
   obtain⟨G,E,h2,M⟩:=h1;exact⟨⟨G,E,h2,M⟩,λb n z=>K.pas k b n z⟩
 hok:=H
 os:=K.os
 tape:=K.tape
 output:=K.output
theorem gQ.turn (K:gQ F h β w) (H:jW X h β w) (C:w'.heap.size=w.heap.size) (hk:∀b,b<w.heap.size->¬X b->w'.heap[b]? =w.heap[b]?) (hl:∀b,b<F.w0.heap.size->w'.heap[b]? =w.heap[b]?) (E:w'.os=w.os) (G:w'.tape=w.tape) (I:w'.output=w.output):gQ F h β w':=
 ⟨K.knd,by rw[C];exact K.size,λb hb hi B=>by rw[hl b hb];exact K.keep b hb hi B,K.own,K.pas,λk b n z=>by
  rw[<-K.bs k b n z];obtain⟨A,_,u⟩:=K.pas k b n z;unfold wW World.shape?
  rw[hk b (H.lt b (.inr ⟨k,A,u⟩)) (H.free k b A u)],E.trans K.os,G.trans K.tape,I.trans K.output⟩
theorem gQ.restr (K:gQ F h β w) (Ks:List Nat) (L:∀k,k∈K0->k∈Ks):gQ F (zD (vD Ks h)) (βr Ks β) w:=by
 refine⟨λk e M=>?_,K.size,K.keep,λk b n u=>K.own k b n (kA u).2,λk b n u=>?_,K.bs,K.os,K.tape,K.output⟩
 .have hk:=L k (F.hh k e M);have h1:=K.knd k e M;have C:∀A,h k=some A->zD (vD Ks h) k=some (qD Ks h A):=λA h2=>by rw[wI,Os hk,h2];rfl
  cases e with
  |dead=>exact h1
  |box cs=>obtain⟨z,h2⟩:=h1;exact⟨_,C _ h2⟩
  |obj cs=>obtain⟨z,h2⟩:=h1;exact⟨_,C _ h2⟩
  |arr sz xs sl=>obtain⟨G,E,h2,O⟩:=h1;obtain⟨I,B,R,S⟩:=fK Ks h sz G E;exact⟨I,B,(C _ h2).trans (by rw[R]),by rw[S];exact O⟩
 .rw[XU (L k (F.hK k b n u))];exact K.pas k b n u
end
def Ve (u:List Nat) (ys:List AV) (T:List (Nat×AV)):List (Nat×AV):=(u.zip ys).foldl (λz p=>p::z) T
theorem IA {D:Nat->Prop} :∀(u:List Nat) (ys:List AV) (cs:List Value) (T:List (Nat×AV)) (tmps:Array Value),ln ys=ln cs->(∀(j:Nat) v c,ys[j]? =some v->cs[j]? =some c->yF w D h β v c)->(∀p,p∈u->p<tmps.size)->
  (∀t,yF w D h β (zL T t) (tmps.getD t undef))->∀t,yF w D h β (zL (Ve u ys T) t) (((u.zip cs).foldl (λtmps (p:Nat×Value)=>tmps.setIfInBounds p.1 p.2) tmps).getD t undef)
 | [],ys,cs,T,tmps,_,_,_,h,t=>h t
 |p::u,[],cs,T,tmps,hl,_,_,h,t=>by
  obtain rfl:cs=[]:=zA5 hl.symm;exact h t
 |p::u,y::ys,[],T,tmps,hl,_,_,h,t=>by simp at hl
 | p::u,y::ys,c::cs,T,tmps,hl,C,B,h,t=>by
  have z:=B p yE;refine IA u ys cs ((p,y)::T) (tmps.setIfInBounds p c) (by simpa using hl) (λj v E h1 h2=>C (j+1) v E JD JE) (λq G=>by simpa using B q (by simp[G])) (λs=>?_) t;rw[xL];by_cases A:s=p
  .subst A;rw[Os Z];have e:(tmps.setIfInBounds s c).getD s undef=c:=by simp[zA4,z]
   rw[e];exact C 0 y c Z Z
  .rw[hW A];have e:(tmps.setIfInBounds p c).getD s undef=tmps.getD s undef:=by simp[zA4,Array.getElem?_setIfInBounds_ne (Ne.symm A)]
   rw[e];exact h s
theorem gQ.evo {F:Fr K0} (z:P3 F X) (G:xX X F.w0 F.h0 F.β0 w h β):DA F.w0 (xT F.X F.β0) F.h0 F.β0 w (xT X β) h β:=
 ⟨G.size,λb hb hd=>⟨G.keep b hb λk n u=>hd (.inr ⟨k,n,u⟩),λh'=>by
  rcases h' with hx|⟨k,n,u⟩
  .rcases z.2 b hx with hx|hx
   .exact hd (.inl hx)
   .omega
  .rcases G.own k b n u with⟨A,B,h2⟩|h2
   .exact hd (.inr ⟨A,B,h2⟩)
   .omega⟩,G.bs,G.key⟩
structure RG {K0:List Nat} (F:Fr K0) (T:List (Nat×AV)) (a:Act) (l:Nat) (hc:List (Nat×xM)) (rec:Loop) (O X:Nat->Prop) (W:World):Prop where
 ex:∃Xc βc,P3 F Xc/\jW Xc (zD hc) βc W/\(∀t,yF W (xT Xc βc) (zD hc) βc (zL T t) (a.eval (.tmp t)))/\gQ F (zD hc) βc W/\
  (∃bs:List Nat,a.defers=bs.map (λb=>{target:= .collected b,args:= #[]})/\bs.Nodup/\∀b,b∈bs->Xc b/\F.w0.heap.size<=b/\W.heap[b]? =some (.deferred (some []))/\¬O b)/\
  (∀b,O b->Xc b/\F.w0.heap.size<=b/\¬F.X b)/\(∀b,Uf βc b->X b)/\(∀b,Xc b->X b\/O b)/\Xc l
 lx:X l
 lo:¬O l
 lh:W.heap[l]? =some (.loop rec)
 ll:F.w0.heap.size<=l
 xl:∀b,X b->b<W.heap.size
 nd:∀k,zD hc k≠some .dead
section
variable {K0:List Nat} {F:Fr K0} {T:List (Nat×AV)} {a:Act} {l:Nat} {hc:List (Nat×xM)} {rec:Loop} {O O' X:Nat->Prop} {W W':World}
theorem RG.stab (C:RG F T a l hc rec O X W) (R:W.heap.size<=W'.heap.size) (hk:∀b,b<W.heap.size->¬O b->W'.heap[b]? =W.heap[b]?) (L:∀b,O' b->O b\/W.heap.size<=b) (hl:∀b,O' b->b<W'.heap.size) (o1:W'.os=W.os) (o2:W'.tape=W.tape) (o3:W'.output=W.output):RG F T a l hc rec O' X W':=by
 obtain⟨⟨Xc,I,S,A,c3,B,⟨bs,d1,d2,d3⟩,G,c8,U,V⟩,lx,lo,lh,ll,xl,nd⟩:=C;have Y:l<W.heap.size:=xl l lx;have M:∀k b n,(b,n)∈I k->¬O b:=λk b n z u=>A.free k b n z (G b u).1
 have E:DA W (xT Xc I) (zD hc) I W' (xT (λb=>(Xc b/\¬O b)\/O' b) I) (zD hc) I:=by
  refine⟨R,λb hb hd=>⟨hk b hb λu=>hd (.inl (G b u).1),λh'=>?_⟩,λk b n z=>?_,kY _ _⟩
  .rcases h' with(hx|hx)|hx
   .exact hd (.inl hx.1)
   .rcases L b hx with u|u
    .exact hd (.inl (G b u).1)
    .omega
   .exact hd (.inr hx)
  .unfold wW World.shape?;rw[hk b (A.lt b (.inr ⟨k,n,z⟩)) (M k b n z)]
 refine⟨⟨λb=>(Xc b/\¬O b)\/O' b,I,⟨λb hb=> .inl ⟨S.1 b hb,λu=>(G b u).2.2 hb⟩,λb hb=>?_⟩,⟨λk e he=>(A.ent k e he).evo E Z λb n z=>hk b (A.lt b (.inr ⟨k,n,z⟩)) (M k b n z),A.off,A.disj,λk b n z hx=>?_,λb hd=>?_⟩,λt=>(c3 t).evo E,⟨B.knd,zBf B.size R,λb hb hi hn=>?_,B.own,B.pas,λk b n z=>?_,o1.trans B.os,o2.trans B.tape,o3.trans B.output⟩,⟨bs,d1,d2,λb hb=>?_⟩,λb hb=>?_,c8,λb hb=>?_,.inl ⟨V,lo⟩⟩,lx,λh=>?_,by rw[hk l Y lo];exact lh,ll,λb hb=>zBg (xl b hb) R,nd⟩
 .rcases hb with hb|hb
  .exact S.2 b hb.1
  all_goals grind
 .rcases hx with hx|hx
  .exact A.free k b n z hx.1
  .rcases L b hx with u|u
   .grind
   .have:=A.lt b (.inr ⟨k,n,z⟩);omega
 .rcases hd with(hx|hx)|hx
  .grind
  .exact hl b hx
  .exact zBg (A.lt b (.inr hx)) R
 .rw[hk b (zBg hb B.size) λu=>by have:=(G b u).2.1;omega];exact B.keep b hb hi hn
 .obtain⟨n',_,ac⟩:=B.pas k b n z;rw[E.bs k b n' ac,B.bs k b n z]
 .obtain⟨q1,q2,q3,q4⟩:=d3 b hb;refine⟨.inl ⟨q1,q4⟩,q2,by rw[hk b (A.lt b (.inl q1)) q4];exact q3,λh=>?_⟩
  rcases L b h with u|u
  .exact q4 u
  .have:=A.lt b (.inl q1);omega
 .refine⟨.inr hb,?_⟩
  rcases L b hb with u|u
  .exact(G b u).2
  .exact⟨zBf B.size u,λhx=>by have:=A.lt b (.inl (S.1 b hx));omega⟩
 .rcases hb with hb|hb
  .exact(U b hb.1).imp id λu=>absurd u hb.2
  .exact .inr hb
 .rcases L l h with u|u
  .exact lo u
  .omega
def mn (e:Exit) (c:Code):Prop:=(e= .ret/\c= .ret)\/∃id,e= .exit id/\c= .exit id
theorem RG.round {m:Nat} {U:Array Tmp} {assign:Code} {fn:FuncId} {bd:Nat} {Ks:List Nat} {ys:List AV} {cs:Array Value} {Rq:Exit->List (Nat×xM)->Prop} (b9:∀p,p∈U.toList->p<m) (u:a.tmps.size=m) (gs:m<=GS)
 (bl:rec= {state:= .ready,pending:=none,fn:=fn,tmps:=a.tmps,params:=U,assign:=assign,body:=body,defers:=bd}) (C:RG F T a l hc rec O X W) (hT:∀t h',wR Ks h' (zL T t)=zL T t) (b2:∀k,k∈K0->k∈Ks)
 (bu:cs.size=ln ys) (b8:U.size=ln ys) (br:∀(j:Nat) v,ys[j]? =some v->xF W (λb=>X b\/O b) v (cs.getD j undef)) (b3:∀e h,Rq e h->e= .normal\/e= .ret\/∃id,e= .exit id)
 (cd:∀(F1:Fr (yV hc)),F1.it=true->F1.ro=some l->uG P F1 m assign ⟨Ve U.toList ys T,hc⟩ (λe s=>e= .normal/\∀(F2:Fr (yV s.h)),F2.it=true->F2.ro=some l->uG P F2 m body s (λe s'=>Rq e (vD Ks (zD s'.h))))):
  YieldAt Fence.wide 0 P l cs W λe W'=>(e= .returned (.bool true)/\∃X',aT X X' W W'/\∃h',Rq .normal h'/\RG F T a l h' rec O X' W')\/
   (e= .returned (.bool false)/\∃X',aT X X' W W'/\∃h' x c,mn x c/\Rq x h'/\RG F T a l h' {rec with state:= .done,pending:=some c} O X' W'):=by
 obtain⟨⟨Xc,βc,c1,c2,c3,c4,⟨bs,d1,d2,d3⟩,c6,c8,a8,a9⟩,lx,lo,lh,ll,xl,nd⟩:=C;have au:l<W.heap.size:=xl l lx;subst bl;refine⟨_,_,_,_,run_yield lh (by simpa using bu.trans b8.symm),?_⟩;dsimp only;refine roundIn_of_wpIn (F:=Fence.wide) (n:=0) trivial ?_
 let F1:Fr (yV hc):=⟨Xc,W,βc,zD hc,λk b n u=>by
  cases hk:zD hc k with
  |none=>rw[c2.off k hk]at u;simp at u
  |some e=>exact vW hk,λk e he=>vW he,some l,true,λ_=>False,λ_ _ _ _=>True,λ_ _ _ _ _ _ _ _ _ _ _ _ _ _=>trivial⟩
 have ar:∀{G:List Nat} (F:Fr G),F.it=true->jW F.X F.h0 F.β0 F.w0->(∀k,F.h0 k≠some .dead)->gQ F F.h0 F.β0 F.w0:=λF _ H nd=>
  ⟨λk e he=>by
   cases e with
   |dead=>exact absurd he (nd k)
   |box cs=>exact⟨cs,he⟩
   |obj cs=>exact⟨cs,he⟩
   |arr sz xs sl=>exact⟨xs,sl,he,zAe _⟩,zAe _,λ_ _ _ _=>rfl,λk b n u=> .inl ⟨k,n,u⟩,λk b n u=>⟨n,zAe _,u⟩,λ_ _ _ _=>rfl,rfl,rfl,rfl⟩
 have L:∀(z:List (Nat×Value)) (tm:Array Value),(z.foldl (λtmps (p:Nat×Value)=>tmps.setIfInBounds p.1 p.2) tm).size=tm.size:=by
  intro z
  induction z with
  |nil=>exact λ_=>rfl
  |cons p z ih=>intro tm;rw[List.foldl_cons,ih];simp
 have ac:(U.zip cs).foldl (λtmps (p:Nat×Value)=>tmps.setIfInBounds p.1 p.2) a.tmps=(U.toList.zip cs.toList).foldl (λtmps (p:Nat×Value)=>tmps.setIfInBounds p.1 p.2) a.tmps:=by
  rw[<-Array.foldl_toList,Array.toList_zip]
 have R1:wV F1 m ⟨Ve U.toList ys T,hc⟩ {tmps:=(U.zip cs).foldl (λtmps (p:Nat×Value)=>tmps.setIfInBounds p.1 p.2) a.tmps,defers:=[]} W:=by
  refine⟨⟨Xc,βc,⟨λ_ h=>h,λ_ h=> .inl h⟩,c2,λt=>?_,ar F1 Z c2 nd,λ_ _=>trivial,[],rfl,λ_=>rfl,zEv,λb hb=>by simp at hb⟩,nd,gs,by rw[ac,L];exact u⟩;rw[ac];refine IA U.toList ys cs.toList T a.tmps (by simpa using bu.symm) (λj v c h1 h2=>?_) (λp hp=>by rw[u];exact b9 p hp) c3 t;have h3:=br j v h1;have e:cs.getD j undef=c:=fB JE;rw[e]at h3;exact .fz _ _ (h3.less λb hd=>hd.elim (a8 b) λho=> .inl (c8 b ho))
 refine Code.wpIn_mono (λe a1 w1 q=>?_) ((cd F1 Z Z).run _ _ R1);obtain⟨s,⟨rfl,hs⟩,⟨⟨X1,β1,R,H1,b0,G,_,ce,b5,b4,_⟩,az,b1,b6⟩⟩:=q;have:=b4 Z;subst this;have G1:=G.toGoes (λ_ h=>h) c2 H1 nd;have E1:=gQ.evo R G1;have bb:w1.heap[l]? =W.heap[l]? :=G.keep l au (λh=>h) λk n u=>c2.free k l n u a9
 have Y:X1 l:=R.1 l a9;refine⟨_,run_beginRound (bb.trans lh) Z,?_⟩;generalize av:w1.putObj l _=w2;have I:w2.heap.size=w1.heap.size:=by rw[<-av];simp
 have a5:∀b,b≠l->w2.heap[b]? =w1.heap[b]? :=λb hb=>by rw[<-av];exact World.putObj_heap_other hb
 have cb:w2.heap[l]? =some (.loop {state:= .busy,pending:=none,fn:=fn,tmps:=a.tmps,params:=U,assign:=assign,body:=body,defers:=bd}):=by
  rw[<-av];exact World.putObj_heap_same (zBg au G.size)
 have A:w2.os=w1.os/\w2.tape=w1.tape/\w2.output=w1.output:=by rw[<-av];exact⟨rfl,rfl,rfl⟩
 have ag:∀b,b<w1.heap.size->¬X1 b->w2.heap[b]? =w1.heap[b]? :=λb _ hx=>a5 b λe=>hx (e▸Y)
 have a4:=H1.turn (zCa I.symm) ag;have E2:=UB H1 (zCa I.symm) ag
 let F2:Fr (yV s.h):=⟨X1,w2,β1,zD s.h,λk b n u=>by
  cases hk:zD s.h k with
  |none=>rw[H1.off k hk]at u;simp at u
  |some e=>exact vW hk,λk e he=>vW he,some l,true,λ_=>False,λ_ _ _ _=>True,λ_ _ _ _ _ _ _ _ _ _ _ _ _ _=>trivial⟩
 have R2:wV F2 m s a1 w2:=⟨⟨X1,β1,⟨λ_ h=>h,λ_ h=> .inl h⟩,a4,λt=>(b0 t).evo E2,ar F2 Z a4 az,λ_ _=>trivial,[],b5,λ_=>rfl,zEv,λb hb=>by simp at hb⟩,az,b1,b6⟩;refine Code.wpIn_mono (λe a2 V q=>?_) ((hs F2 Z Z).run _ _ R2);obtain⟨s3,hq,⟨⟨X3,β3,S,H3,_,K3,_⟩,bx,_,_⟩⟩:=q;have G3:=K3.toGoes (λ_ h=>h) a4 H3 az;have E3:=gQ.evo S G3;have a7:=(K3.keep l (by show l<w2.heap.size;rw[I];exact zBg au G.size) (λh=>h) λk n u=>H1.free k l n u Y).trans cb;have b7:l<V.heap.size:=zBg (by rw[I];exact zBg au G.size) K3.size;have a3:X3 l:=S.1 l Y;have cg:W.heap.size<=V.heap.size:=zBf G.size (by rw[<-I];exact K3.size)
 have key:∀E:Loop,∃X',aT X X' W (V.putObj l (.loop E))/\RG F T a l (vD Ks (zD s3.h)) E O X' (V.putObj l (.loop E)):=by
  intro E;generalize ax:V.putObj l (.loop E)=w4;have M:w4.heap.size=V.heap.size:=by rw[<-ax];simp
  have a6:∀b,b≠l->w4.heap[b]? =V.heap[b]? :=λb hb=>by rw[<-ax];exact World.putObj_heap_other hb
  have cc:w4.heap[l]? =some (.loop E):=by rw[<-ax];exact World.putObj_heap_same b7
  have B:w4.os=V.os/\w4.tape=V.tape/\w4.output=V.output:=by rw[<-ax];exact⟨rfl,rfl,rfl⟩
  have ap:∀b,b<V.heap.size->¬X3 b->w4.heap[b]? =V.heap[b]? :=λb _ hx=>a6 b λe=>hx (e▸a3)
  obtain⟨H4,ca⟩:=H3.restr Ks;have H5:=H4.turn (zCa M.symm) ap;have E5:=UB H4 (zCa M.symm) ap
  have oc:∀b,X3 b->Xc b\/W.heap.size<=b:=λb hb=>by
   rcases S.2 b hb with h|h
   .exact R.2 b h
   .have h2:w2.heap.size<=b:=h;rw[I]at h2;exact .inr (zBf G.size h2)
  have bz:∀b,b<W.heap.size->b≠l->¬Uf βc b->w4.heap[b]? =W.heap[b]? :=λb hb bf bk=>by
   rw[a6 b bf]
   have h1:∀k n,(b,n)∉β1 k:=λk n u=>by
    rcases G.own k b n u with⟨k',n',h⟩|h
    .exact bk ⟨k',n',h⟩
    .have:W.heap.size<=b:=h;omega
   have q1:=K3.keep b (by show b<w2.heap.size;rw[I];exact zBg hb G.size) (λh=>h) h1;have q2:=G.keep b hb (λh=>h) λk n u=>bk ⟨k,n,u⟩
   exact q1.trans ((a5 b bf).trans q2)
  have KF:gQ F (zD (vD Ks (zD s3.h))) (βr Ks β3) w4:=by
   have k1:gQ F (zD s.h) β1 w1:=c4.goes G1 az λk b n u=>G.pas k b n u
   have k2:gQ F (zD s.h) β1 w2:=k1.turn H1 I ag (λb hb=>a5 b λe=>by omega) A.1 A.2.1 A.2.2;have k3:gQ F (zD s3.h) β3 V:=k2.goes G3 bx λk b n u=>K3.pas k b n u
   have k4:=k3.restr Ks b2;exact k4.turn H4 M ap (λb hb=>a6 b λe=>by omega) B.1 B.2.1 B.2.2
  refine⟨λb=>X b\/Uf (βr Ks β3) b\/(X3 b/\¬O b),⟨by omega,λb hb hx=>⟨bz b hb (λe=>hx (e▸lx)) λho=>hx (c8 b ho),λh'=>?_⟩,λb hb=> .inl hb,λb hb=>?_,?_,?_,?_⟩,⟨X3,βr Ks β3,⟨λb hb=>S.1 b (R.1 b (c1.1 b hb)),λb hb=>?_⟩,H5,λt=>?_,KF,⟨bs,d1,d2,λb hb=>?_⟩,λb hb=>?_,λb hb=> .inr (.inl hb),λb hb=>?_,a3⟩,.inl lx,lo,cc,ll,λb hb=>?_,λk=>?_⟩
  .rcases h' with h|⟨k,n,u⟩|⟨h,hO⟩
   .exact hx h
   .have u:=(kA u).2
    rcases K3.own k b n u with⟨k',n',h⟩|h
    .rcases G.own k' b n' h with⟨k2,n2,h⟩|h
     .exact hx (c8 b ⟨k2,n2,h⟩)
     .have:W.heap.size<=b:=h;omega
    .have h2:w2.heap.size<=b:=h;have:=G.size;have:W.heap.size<=w1.heap.size:=this;omega
   .rcases oc b h with h|h
    .exact(a8 b h).elim hx hO
    .omega
  .rcases hb with h|⟨k,n,u⟩|⟨h,hO⟩
   .have:=xl b h;omega
   .rw[M];exact H3.lt b (.inr ⟨k,n,(kA u).2⟩)
   .rw[M];exact H3.lt b (.inl h)
  .exact B.1.trans (K3.os.trans (A.1.trans G.os))
  .exact B.2.1.trans (K3.tape.trans (A.2.1.trans G.tape))
  .exact B.2.2.trans (K3.output.trans (A.2.2.trans G.output))
  .rcases oc b hb with h|h
   .exact c1.2 b h
   .exact .inr (zBf c4.size h)
  .have:=ca _ _ ((((c3 t).evo E1).evo E2).evo E3);rw[hT]at this;exact this.evo E5
  .obtain⟨q1,q2,q3,q4⟩:=d3 b hb;refine⟨S.1 b (R.1 b q1),q2,?_,q4⟩;rw[bz b (c2.lt b (.inl q1)) (λe=>by rw[e,lh]at q3;cases q3) λ⟨k,n,u⟩=>c2.free k b n u q1];exact q3
  .exact⟨S.1 b (R.1 b (c6 b hb).1),(c6 b hb).2⟩
  .by_cases hO:O b
   .exact .inr hO
   .exact .inl (.inr (.inr ⟨hb,hO⟩))
  .rcases hb with h|⟨k,n,u⟩|⟨h,hO⟩
   .have:=xl b h;omega
   .rw[M];exact H3.lt b (.inr ⟨k,n,(kA u).2⟩)
   .rw[M];exact H3.lt b (.inl h)
  .rw[wI];split
   .intro h;rw[zAo]at h;obtain⟨e,he,h2⟩:=h
    cases e with
    |dead=>exact bx k he
    |box cs=>cases h2
    |obj cs=>cases h2
    |arr sz xs st=>obtain⟨ch,cf,h4,_⟩:=fK Ks (zD s3.h) sz xs st;rw[h4]at h2;cases h2
   .intro h;cases h
 rcases b3 e _ hq with rfl|rfl|⟨id,rfl⟩
 .obtain⟨X',q1,q2⟩:=key {state:= .ready,pending:=none,fn:=fn,tmps:=a.tmps,params:=U,assign:=assign,body:=body,defers:=bd};exact⟨_,_,run_endRound none a7,.inl ⟨rfl,X',q1,_,hq,q2⟩⟩
 .obtain⟨X',q1,q2⟩:=key {state:= .done,pending:=some .ret,fn:=fn,tmps:=a.tmps,params:=U,assign:=assign,body:=body,defers:=bd};exact⟨_,_,run_endRound (some .ret) a7,.inr ⟨rfl,X',q1,_,.ret,.ret,.inl ⟨rfl,rfl⟩,hq,q2⟩⟩
 .obtain⟨X',q1,q2⟩:=key {state:= .done,pending:=some (.exit id),fn:=fn,tmps:=a.tmps,params:=U,assign:=assign,body:=body,defers:=bd};exact⟨_,_,run_endRound (some (.exit id)) a7,.inr ⟨rfl,X',q1,_,.exit id,.exit id,.inr ⟨id,rfl,rfl⟩,hq,q2⟩⟩
end
theorem RH (w:World) (o:Obj) (b:Nat) (h:b<w.heap.size):(w.alloc o).heap[b]? =w.heap[b]? :=by
 show(w.heap.push o)[b]? =_
 grind
theorem gQ.grow {F:Fr K0} {w':World} (K:gQ F h β w) (H:jW X h β w) (B:w.heap.size<=w'.heap.size) (hk:∀b,b<w.heap.size->w'.heap[b]? =w.heap[b]?) (E:w'.os=w.os) (G:w'.tape=w.tape) (I:w'.output=w.output):gQ F h β w':=
 ⟨K.knd,zBf K.size B,λb hb hi A=>by rw[hk b (zBg hb K.size)];exact K.keep b hb hi A,K.own,K.pas,λk b n z=>by
  rw[<-K.bs k b n z];obtain⟨C,_,u⟩:=K.pas k b n z;unfold wW World.shape?
  rw[hk b (H.lt b (.inr ⟨k,C,u⟩))],E.trans K.os,G.trans K.tape,I.trans K.output⟩
section
variable {P:Program} {K0:List Nat} {F:Fr K0} {m:Nat} {st:St} {T:List (Nat×AV)} {a:Act} {l:Nat} {hc:List (Nat×xM)} {rec:Loop} {O X:Nat->Prop} {W:World}
theorem RG.rel (C:RG F T a l hc rec O X W) (B:F.it=false) (hT:∀i,zL T GS≠ .gh i) (gs:m<=GS) (hl:a.tmps.size=m) (o:Obj):wV F m ⟨T,hc⟩ a (W.putObj l o):=by
 obtain⟨⟨Xc,Y,I,A,M,R,⟨G,S,U,d3⟩,c6,c8,L,z⟩,lx,lo,lh,ll,xl,V⟩:=C;have sz:(W.putObj l o).heap.size=W.heap.size:=by simp
 have E:∀b,b≠l->(W.putObj l o).heap[b]? =W.heap[b]? :=λb hb=>World.putObj_heap_other hb
 have u:∀b,b<W.heap.size->¬Xc b->(W.putObj l o).heap[b]? =W.heap[b]? :=λb _ hx=>E b λe=>hx (e▸z)
 refine⟨⟨Xc,Y,I,A.turn (zCa sz.symm) u,λt=>(M t).evo (UB A (zCa sz.symm) u),R.turn A sz u (λb hb=>E b λe=>by omega) Z Z Z,λi hi=>absurd hi (hT i),G,S,(λh=>by rw[B]at h;cases h),U,λb hb=>?_⟩,V,gs,hl⟩
 grind
def rfQ (Ks:List Nat) (h':List (Nat×xM)) (p:Prop) (Q:Exit->St->Prop) (T:List (Nat×AV)):Exit->St->Prop
 | .normal,s=>vD Ks (zD s.h)=h'/\p
 | .ret,s=>Q .ret ⟨T,vD Ks (zD s.h)⟩
 | .exit id,s=>Q (.exit id) ⟨T,vD Ks (zD s.h)⟩
 |_,_=>False
theorem qF {g:Operand} {ps:Array Tmp} {assign:Code} {f:Nat} {B:List AV} {xs:List (List AV)} (hF:F.ro=none/\F.it=false) (bf:TF P f B h0 xs) (hg:yW (zL st.tm) g= .fn f B)
 (Ks ts:List Nat) (b2:K0.all (Ks.contains ·)=true) (bb:Ks.all (λk=>!(yV h0).contains k)=true) (cd:(yV h0).map (zD st.h)=(yV h0).map (zD h0)) (b7:h0.all (λp=>fw (yV h0) p.2)=true)
 (a8:(jH B).all ((yV h0).contains ·)=true) (ci:ts.all (λt=>(zL st.tm t).refs.all (λk=>!(yV h0).contains k))=true)
 (ce:Ks.all (λk=>match zD st.h k with|some (.box cs)=>(jH cs).all (λj=>!(yV h0).contains j)|_=>true)=true) (cc:ts.all (λt=>!(Nat.beq t GS))=true) (ch:ps.toList.all (Nat.blt · m)=true) (cg:∀(i:Nat) ys,xs[i]? =some ys->ps.size=ln ys)
 (H:Nat->List (Nat×xM)) (I:Nat->Prop) {T:List (Nat×AV)} (e0:restr Ks ts st=⟨T,H 0⟩) (i0:I 0)
 (a4:∀(i:Nat) ys l,xs[i]? =some ys->I i->∀(F1:Fr (yV (H i))),F1.it=true->F1.ro=some l->uG P F1 m assign ⟨Ve ps.toList ys T,H i⟩ (λe s=>e= .normal/\∀(F2:Fr (yV s.h)),F2.it=true->F2.ro=some l->uG P F2 m body s (rfQ Ks (H (i+1)) (I (i+1)) Q T)))
 (done:I (ln xs)->Q .normal ⟨T,H (ln xs)⟩) (cf:A3 st.h=true:=by rfl):uG P F m (.rangeFunc g ps assign body) st Q:=⟨λa w R=>by
 rw[hF.1]
 change Code.wpIn Fence.wide 0 P _ _ a w
 obtain⟨⟨X0,β,hX,S,Ht,KK,_,bs,ca,_,b6,a7⟩,nd,gs,hl⟩:=R
 have hK:∀k,k∈yV h0->zD st.h k=zD h0 k:=λk hk=>by
  obtain⟨i,hi⟩:=zDg hk;have:=zAt (·[i]?) cd;simpa [hi]using this
 have Y:∀k e,zD h0 k=some e->fw (yV h0) e=true:=λk e hk=>by
  obtain⟨p,hp,U⟩:=dP hk;have:=zAm.1 b7 p hp;rw[U]at this;exact this
 have A:∀k,k∈yV h0->¬k∈Ks:=λk h1 h2=>by
  have:=zAm.1 bb k h2;simp at this;exact this h1
 have bd:∀k cs,k∈Ks->zD st.h k=some (.box cs)->∀j,j∈jH cs->¬j∈yV h0:=λk cs hk U j hj h1=>by
  have:=zAm.1 ce k hk;rw[U]at this;have:=zAm.1 this j hj;simp at this;exact this h1
 have ag:∀k,k∈K0->k∈Ks:=λk hk=>by simpa using zAm.1 b2 k hk
 have co:T=ts.map λt=>(t,wR Ks (zD st.h) (zL st.tm t)):=by have:=zAt St.tm e0;exact this.symm
 have b0:vD Ks (zD st.h)=H 0:=zAt St.h e0
 have G:∀t,zL T t=if t∈ts then wR Ks (zD st.h) (zL st.tm t)else .bot:=λt=>by
  rw[<-dO Ks ts st t,e0]
 have b4:∀t h',wR Ks h' (zL T t)=zL T t:=λt h'=>by
  rw[G];split
  .exact pn _ _ _ _
  .rfl
 have a6:∀i,zL T GS≠ .gh i:=λi=>by
  rw[G];split
  .rename_i h;have:=zAm.1 cc GS h;simp at this
  .intro h;cases h
 have az:=PN Ht g;rw[hg]at az
 obtain⟨cv,cb,a9,b9⟩:∃cv:Array Value,a.eval g= .func (.func f) #[] cv/\cv.size=ln B/\∀(i:Nat) v,B[i]? =some v->yF w (xT X0 β) (zD st.h) β v (cv.getD i undef):=by
  generalize a.eval g=cx at az
  cases az with
  |fz _ _ hf=>cases hf
  |fn _ _ c hl hh=>exact⟨c,rfl,hl,hh⟩
 refine wpIn_rangeFunc (F:=Fence.wide) (n:=0) λfn _=>?_
 generalize M:({state:= .ready,pending:=none,fn:=fn,tmps:=a.tmps,params:=ps,assign:=assign,body:=body,defers:=w.heap.size}:Loop)=rec;obtain⟨E,V⟩:∃E,E=(w.alloc (.deferred (some []))).alloc (.loop rec):=⟨_,rfl⟩;have cq:E.heap.size=w.heap.size+2:=by rw[V];simp
 have ap:∀b,b<w.heap.size->E.heap[b]? =w.heap[b]? :=λb hb=>by rw[V,RH _ _ b qM,RH _ _ b hb]
 have b5:E.heap[w.heap.size]? =some (.deferred (some [])):=by rw[V,RH _ _ _ yE];exact World.alloc_heap_new _ _
 have bk:E.heap[w.heap.size+1]? =some (.loop rec):=by
  rw[V];have:=World.alloc_heap_new (w.alloc (.deferred (some []))) (.loop rec);simpa using this
 have u:E.os=w.os/\E.tape=w.tape/\E.output=w.output:=by rw[V];exact⟨rfl,rfl,rfl⟩
 have ac:(Instr.enterLoop fn a.tmps ps assign body none).run P w= .ok (w.heap.size+1,[{target:= .collected w.heap.size,args:= #[]}]) E:=by
  rw[V,<-M];exact run_enterLoop_outer fn a.tmps ps assign body
 generalize cp:w.heap.size+1=l at bk ac
 let a':Act:={a with defers:=[{target:= .collected w.heap.size,args:= #[]}]++a.defers}
 let J:Nat->(Nat->Prop)->(Nat->Prop)->World->Prop:=λi O X W=>(i<=ln xs/\I i/\RG F T a' l (H i) rec O X W)\/
  (ln xs<i/\∃h' x c,mn x c/\Q x ⟨T,h'⟩/\RG F T a' l h' {rec with state:= .done,pending:=some c} O X W)
 have br:∀i O X w w' O',J i O X w->w.heap.size<=w'.heap.size->(∀b,b<w.heap.size->¬O b->w'.heap[b]? =w.heap[b]?)->(∀b,O' b->O b\/w.heap.size<=b)->(∀b,O' b->b<w'.heap.size)->w'.os=w.os->w'.tape=w.tape->w'.output=w.output->J i O' X w':=by
  rintro i O X v v' O' (⟨h1,hI,h2⟩|⟨h1,h',x,c,h2,h3,h4⟩) q1 q2 q3 q4 q5 q6 q7
  .exact .inl ⟨h1,hI,h2.stab q1 q2 q3 q4 q5 q6 q7⟩
  .exact .inr ⟨h1,h',x,c,h2,h3,h4.stab q1 q2 q3 q4 q5 q6 q7⟩
 let O0:Nat->Prop:=Uf (βr (yV h0) β)
 let Xa:Nat->Prop:=λb=>X0 b\/∃k n,k∈yV h0/\(b,n)∈β k
 let Xc:Nat->Prop:=λb=>Xa b\/b=w.heap.size\/b=l
 let Xi:Nat->Prop:=λb=>X0 b\/Uf (βr Ks β) b
 let X1:Nat->Prop:=λb=>Xi b\/b=w.heap.size\/b=l
 have ar:∀b,O0 b->b<w.heap.size:=λb ⟨k,n,z⟩=>S.lt b (.inr ⟨k,n,(kA z).2⟩)
 have av:∀b,Xa b->b<w.heap.size:=λb hb=>hb.elim (λh=>S.lt b (.inl h)) λ⟨k,n,_,z⟩=>S.lt b (.inr ⟨k,n,z⟩)
 have ax:∀b,Xi b->b<w.heap.size:=λb hb=>hb.elim (λh=>S.lt b (.inl h)) λ⟨k,n,z⟩=>S.lt b (.inr ⟨k,n,(kA z).2⟩)
 have b3:∀b,O0 b->¬X0 b:=λb ⟨k,n,z⟩ hx=>S.free k b n (kA z).2 hx
 obtain⟨H1,cj⟩:=S.restrX (X':=Xa) Ks (yV h0) (λb hb=>hb) A (an cf) bd
 have Q1:aT Xa Xc w E:=⟨by omega,λb hb hx=>⟨ap b hb,λh=>by
  rcases h with h|h|h
  .exact hx h
  .omega
  .omega⟩,λb hb=> .inl hb,λb hb=>by
  rcases hb with h|h|h
  .have:=av b h;omega
  .omega
  .omega,u.1,u.2.1,u.2.2⟩
 obtain⟨H2,ck⟩:=Y9 (Xc:=Xi) S hK Y (λb hb=>by
  rcases hb with h|⟨k,n,z⟩
  .exact .inl h
  .obtain⟨hk,z⟩:=kA z
   exact .inr ⟨k,n,λh=>A k h hk,z⟩)
 have Q2:aT Xi X1 w E:=⟨by omega,λb hb hx=>⟨ap b hb,λh=>by
  rcases h with h|h|h
  .exact hx h
  .omega
  .omega⟩,λb hb=> .inl hb,λb hb=>by
  rcases hb with h|h|h
  .have:=ax b h;omega
  .omega
  .omega,u.1,u.2.1,u.2.2⟩
 have C0:RG F T a' l (H 0) rec O0 X1 E:=by
  rw[<-b0];refine⟨⟨Xc,βr Ks β,⟨λb hb=> .inl (.inl (hX.1 b hb)),λb hb=>?_⟩,Q1.hok H1,λt=>?_,(KK.restr Ks ag).grow H1 (by omega) ap u.1 u.2.1 u.2.2,⟨w.heap.size::bs,?_,?_,λb hb=>?_⟩,λb hb=>?_,λb hb=> .inl (.inr hb),λb hb=>?_,.inr (.inr Z)⟩,.inr (.inr Z),λh=>?_,bk,?_,Q2.lt,λk=>?_⟩
  .rcases hb with(h|⟨k,n,hk,z⟩)|h|h
   .exact hX.2 b h
   .rcases KK.own k b n z with⟨k',n',h⟩|h
    .exfalso;obtain⟨a3,_,a1⟩:=KK.pas k' b n' h;have:=S.disj k k' b n a3 z a1;subst this;exact A k hk (ag k (F.hK k b n' h))
    .exact .inr h
   all_goals(exact .inr (by have:=KK.size;omega))
  .rw[G];split
   .rename_i ht
    exact(cj _ _ (λj hj h1=>by
     have:=zAm.1 ci t ht;have:=zAm.1 this j hj;simp at this
     exact this h1) (Ht t)).evo (Q1.evo H1)
   .exact .fz _ _ (.bot _)
  .show [_]++a.defers=_
   rw[ca];rfl
  .refine List.nodup_cons.2 ⟨λh=>?_,b6⟩;have:=S.lt _ (.inl (a7 _ h).1);omega
  .rcases zBx.1 hb with rfl|hb
   .exact⟨.inr (.inl Z),KK.size,b5,λh=>by have:=ar _ h;omega⟩
   .obtain⟨q1,q2,q3⟩:=a7 b hb;exact⟨.inl (.inl q1),q2,by rw[ap b (S.lt b (.inl q1))];exact q3,λh=>b3 b h q1⟩
  .obtain⟨k,n,z⟩:=hb;obtain⟨hk,z⟩:=kA z;refine⟨.inl (.inr ⟨k,n,hk,z⟩),?_,λh=>S.free k b n z (hX.1 b h)⟩
   rcases KK.own k b n z with⟨k',n',h⟩|h
   .exfalso;obtain⟨a3,_,a1⟩:=KK.pas k' b n' h;have:=S.disj k k' b n a3 z a1;subst this;exact A k hk (ag k (F.hK k b n' h))
   .exact h
  .rcases hb with(h|⟨k,n,hk,z⟩)|h|h
   .exact .inl (.inl (.inl h))
   .exact .inr ⟨k,n,by rw[XU hk];exact z⟩
   .exact .inl (.inr (.inl h))
   .exact .inl (.inr (.inr h))
  .have:=ar _ h;omega
  .have:=KK.size;omega
  .rw[wI];split
   .intro h;rw[zAo]at h;obtain⟨e,U,h2⟩:=h
    cases e with
    |dead=>exact nd k U
    |box cs=>cases h2
    |obj cs=>cases h2
    |arr sz xs fl=>obtain⟨cr,cn,h4,_⟩:=fK Ks (zD st.h) sz xs fl;rw[h4]at h2;cases h2
   .intro h;cases h
 let Fi:Fr (yV h0):=⟨X1,E,βr (yV h0) β,zD h0,λk b n z=>(kA z).1,λk e U=>vW U,none,true,X1,J,br⟩
 have a5:=bf.sim l cv Fi ⟨rfl,λ_ h=>h⟩ rfl Z a9 (Q2.hok H2) (λi v hv=>(ck v _ (b9 i v hv) (λk hk=>by
   have:=zAm.1 a8 k (wT hv hk)
   simpa using this)).evo (Q2.evo H2)) (.inl ⟨zAn _,i0,C0⟩) (by
  intro i ys X O W cs a2 hj b8 bl;have cm:i<ln xs:=(zAx.1 a2).1
  rcases hj with⟨_,hI,C⟩|⟨h,_⟩
  case inr=>omega
  have hd:=C.round (P:=P) (m:=m) (Ks:=Ks) (ys:=ys) (cs:=cs) (Rq:=λe h'=>(e= .normal/\h'=H (i+1)/\I (i+1))\/((e= .ret\/∃id,e= .exit id)/\Q e ⟨T,h'⟩)) (λp hp=>by simpa using zAm.1 ch p hp) (show a'.tmps.size=m from hl) gs M.symm b4 ag b8 (cg i ys a2) bl
   (λe h L=>by
    rcases L with⟨rfl,_⟩|⟨h|h,_⟩
    .exact .inl Z
    .exact .inr (.inl h)
    .exact .inr (.inr h)) (λF1 f1 f2=>(a4 i ys l a2 hI F1 f1 f2).mono λe s ⟨U,hb⟩=>⟨U,λF2 g1 g2=>(hb F2 g1 g2).mono λe' s' L=>by
     cases e' with
     |normal=>exact .inl ⟨rfl,L⟩
     |ret=>exact .inr ⟨.inl Z,L⟩
     |exit id=>exact .inr ⟨.inr ⟨id,rfl⟩,L⟩
     |goto t=>exact L.elim
     |panic c=>exact L.elim
     |outgrown=>exact L.elim⟩)
  obtain⟨bz,cl,bu,bx,h1,h2⟩:=hd;refine⟨bz,cl,bu,bx,h1,RoundIn.mono h2 ?_⟩;rintro e W' (⟨U,X',q,h',L,C'⟩|⟨U,X',q,h',x,c,hx,L,C'⟩)
  .refine .inl ⟨U,X',q,.inl ⟨by omega,?_⟩⟩
   rcases L with⟨_,rfl,b1⟩|⟨h|⟨id,h⟩,_⟩
   .exact⟨b1,C'⟩
   all_goals cases h
  .refine .inr ⟨U,X',q,.inr ⟨by omega,h',x,c,hx,?_,C'⟩⟩
   rcases L with⟨h,_⟩|⟨_,h⟩
   .rcases hx with⟨rfl,_⟩|⟨id,rfl,_⟩<;>cases h
   .exact h)
 refine⟨l,[{target:= .collected w.heap.size,args:= #[]}],E,{target:= .fn (.func f) cv,args:= #[.func (.yield l) #[] #[]]},E,f, #[.func (.yield l) #[] #[]]++cv,E,ac,?_,λ_ _=>trivial,(by simp only[invoke];exact bf.able _ _),λh=>by simp[Fence.wide]at h,?_⟩
 .unfold resolve rangeCall;dsimp only;rw[cb];simp[Deferred.ofValue,Act.eval]
 .refine callsIn_wide.2 (Calls.mono a5 ?_);rintro e w' ⟨⟨v,rfl⟩,i,O,X,hj,hi⟩;have au:a'.tmps.size=m:=hl
  rcases hj with⟨h1,hI,C⟩|⟨h1,h',x,c,hx,L,C⟩
  .obtain rfl:i=ln xs:=by omega
   refine⟨_,_,run_endLoop C.lh (by rw[<-M];intro h;cases h),?_⟩;rw[show rec.pending=none by rw[<-M]];exact⟨_,done hI,C.rel hF.2 a6 gs au _⟩
  .refine⟨_,_,run_endLoop C.lh (by intro h;cases h),?_⟩;have R:=C.rel hF.2 a6 gs au (.loop {({rec with state:= .done,pending:=some c}:Loop)with state:= .exhausted})
   rcases hx with⟨rfl,rfl⟩|⟨id,rfl,rfl⟩
   .exact wpIn_ret ⟨_,L,R⟩
   .exact wpIn_exit ⟨_,L,R⟩⟩
end
def Iw (n:Int):AV:= .s (.int .u8 n)
def sn (a b:List Int):Bool:=(strOfNums a).toList==(strOfNums b).toList
def BY (l:List Int):Prop:=∀x∈l,0<=x/\x<256
def MT (a:List Int):(strOfNums a).toList=a.map λn=>UInt8.ofNat n.toNat:=by
 rw[ByteArray.toList_eq];rfl
theorem Db (a b:List Int):sn a b=decide ((a.map λn=>UInt8.ofNat n.toNat)=b.map λn=>UInt8.ofNat n.toNat):=by
 unfold sn;rw[MT,MT]
 grind
def xS (a:List Int):sn a a=true:=by rw[Db];simp
def Zn (a b:List Int):sn a b=sn b a:=by rw[Db,Db];simp[eq_comm]
def uX (m n:Int):Int:=IntKind.i64.wrap (BitVec.ofInt IntKind.i64.bits m &&& BitVec.ofInt IntKind.i64.bits n).toNat
def lu (m n:Int):Int:=IntKind.i64.wrap (BitVec.ofInt IntKind.i64.bits m ||| BitVec.ofInt IntKind.i64.bits n).toNat
def U0 (m n:Int):Int:=IntKind.i64.wrap (BitVec.ofInt IntKind.i64.bits m &&& ~~~BitVec.ofInt IntKind.i64.bits n).toNat
section
variable {P:Program} {TT:List TI} {tm:List (Nat×AV)} {h:List (Nat×xM)} {tx ty:Nat} {x y:Operand}
def Yn {n:Int} (hx:yW (zL tm) x= .s (.int .i64 m)) (u:yW (zL tm) y= .s (.int .i64 n)):wZ P ⟨tm,h⟩ (.binOp .and tx x y ty) (.s (.int .i64 (uX m n))) [] [] []:=HA hx u
def aM {n:Int} (hx:yW (zL tm) x= .s (.int .i64 m)) (u:yW (zL tm) y= .s (.int .i64 n)):wZ P ⟨tm,h⟩ (.binOp .or tx x y ty) (.s (.int .i64 (lu m n))) [] [] []:=HB hx u
def Xn {n:Int} (hx:yW (zL tm) x= .s (.int .i64 m)) (u:yW (zL tm) y= .s (.int .i64 n)):wZ P ⟨tm,h⟩ (.binOp .andNot tx x y ty) (.s (.int .i64 (U0 m n))) [] [] []:=Sa hx u
def IB {a:List Int} (hx:yW (zL tm) x= .s (.string (strOfNums a))) (u:yW (zL tm) y= .s (.string (strOfNums b))):wZ P ⟨tm,h⟩ (.binOp .eql tx x y ty) (.s (.bool (sn a b))) [] [] []:=QD hx u (.inl ⟨rfl,rfl⟩)
def IC {a:List Int} (hx:yW (zL tm) x= .s (.string (strOfNums a))) (u:yW (zL tm) y= .s (.string (strOfNums b))):wZ P ⟨tm,h⟩ (.binOp .neq tx x y ty) (.s (.bool (!sn a b))) [] [] []:=QD hx u (.inr ⟨rfl,rfl⟩)
def BN (O:qI P TT) {A u:Nat} {ts td:TI} {xs:List AV} {l:List Int} (hs:TT[A]? =some ts) (ac:ts.d= .slice e) (he:TT[e]? =some te) (Y:te.d= .int .u8) (hd:TT[u]? =some td) (W:td.d= .string)
 (hx:yW (zL tm) x= .sl nn xs) (hl:xs=l.map Iw):wZ P ⟨tm,h⟩ (.convert A u x) (.s (.string (strOfNums l))) [] [] []:=
 yZ λo X tm h w β a ho hg _ HH Ht=>by
  obtain⟨ap,av,ar,pos,I,L⟩:=o;dsimp only at ho;subst ho;have h1:=dE Ht hg (x:=x) uL hx;obtain⟨_,u1,_,_,B,_,S,_⟩:=vO (O _ _ hs);obtain⟨_,u2,_,_,C,_,U,_⟩:=vO (O _ _ he);obtain⟨_,u3,_,_,E,_,V,_⟩:=vO (O _ _ hd);obtain rfl:=kO (S.symm.trans ac);obtain rfl:=IZ (U.symm.trans Y);obtain rfl:=Lf (V.symm.trans W);subst hl;refine⟨.string (strOfNums l),?_,.fz _ _ (.s _)⟩
  have key:(convert A u (a.eval x)).run P w= .ok (.string (strOfNums l)) w:=by
   generalize a.eval x=cx at h1
   cases h1 with
   | fz _ _ hf=>
    generalize G:l.map Iw=xs at hf
    cases hf with
    | nil b cap=>
     obtain rfl:l=[]:=by cases l with
      |nil=>rfl
      |cons z l=>simp at G
     cases b with
     |none=>exact run_convert_bytes_nil w A e B C 0 cap u E
     |some b=>
      rw[run_convert_bytes_string w A u e _ 0 cap B C E];simp[Conv.bytesToString,loadCells];rfl
    | nil1 b cap=>
     obtain rfl:l=[]:=by cases l with
      |nil=>rfl
      |cons z l=>simp at G
     rw[run_convert_bytes_string w A u e _ 0 cap B C E];simp[Conv.bytesToString,loadCells];rfl
    | sl _ _ b o sz cap f hx hL au hh=>
     subst G;have R:∀i,i<ln l->(l.map Iw)[i]? =some (Iw (l.getD i 0)):=λi hi=>by simp[pi,hi]
     have ag:sz=1:=by
      cases l with
      |nil=>exact absurd Z hx
      |cons z l=>exact(hL.wide 0 (Iw z) Z).symm
     subst ag
     have:=run_convert_bytes_arg (P:=P) w A e B C b o (l.map Iw).length cap l yE (λi hi=>by
      have hi':i<ln l:=by simpa using hi
      have h2:=hL.cell i 0 (by simpa using hi') (by omega);have M:=(hh i _ 0 (Iw (l.getD i 0)) (R i hi') Z);rw[show o+i=o+i*1+0 by omega,h2];unfold Iw at M;generalize f i 0=c at M;cases M
      rfl) u E
     exact this
  simp[execOp,key]
end
section
variable {P:Program} {TT:List TI} {K0:List Nat} {F:Fr K0} {m:Nat} {ops:Array Oper} {rest:List Oper} {Q:List FP->St->Prop} {tm:List (Nat×AV)} {h:List (Nat×xM)} {dr:Bool} {fs:List FP}
variable {ty:Nat} {pos:String} {after:Array Edge} {t:Nat}
def aN {lo hi u:Option Operand} (hk:yP P F m ops dr (⟨some t,.slice T x lo hi u,ty,pos,after,none⟩::rest) st fs Q):yP P F m ops dr (⟨some t,.slice T x lo hi u,ty,pos,after,none⟩::rest) st fs Q:=hk
def S0 (z:qI P TT) {xs ys:List AV} {i:Int} (hx:yW (zL tm) x= .sl nn xs) (hl:yW (zL tm) l= .s (.int k i)) (hT:TT[T]? =some ti) (hd:ti.d= .slice e) (A:TT[e]? =some te)
 (u:∀y,xs[0]? =some y->ln y.cells=te.size) (h0:0<=i) (h1:i<=ln xs) (C:xs.drop i.toNat=ys) (B:Nat.blt t m=true) (hk:yP P F m ops dr rest ⟨(t,.sl nn ys)::tm,h⟩ (⟨true,[],[]⟩::fs) Q):
  yP P F m ops dr (⟨some t,.slice T x (some l) none none,ty,pos,after,none⟩::rest) ⟨tm,h⟩ fs Q:=by
 have:=aC (P:=P) (st:=⟨tm,h⟩) (lo:=some l) (hi:=none) (l:=i.toNat) (r:=ln xs) z hx hT hd A ⟨k,i,hl,by omega⟩ rfl (by omega) (zAe _) u;rw[show(xs.drop i.toNat).take (ln xs-i.toNat)=ys by rw[<-C];exact zAl yE]at this;exact wO this B hk
def R0 (z:qI P TT) {xs ys:List AV} {i:Int} (hx:yW (zL tm) x= .sl nn xs) (hl:yW (zL tm) l= .s (.int k i)) (hT:TT[T]? =some ti) (hd:ti.d= .slice e) (A:TT[e]? =some te)
 (u:∀y,xs[0]? =some y->ln y.cells=te.size) (h0:0<=i) (h1:i<=ln xs) (C:xs.take i.toNat=ys) (B:Nat.blt t m=true) (hk:yP P F m ops dr rest ⟨(t,.sl nn ys)::tm,h⟩ (⟨true,[],[]⟩::fs) Q):
  yP P F m ops dr (⟨some t,.slice T x none (some l) none,ty,pos,after,none⟩::rest) ⟨tm,h⟩ fs Q:=by
 have:=aC (P:=P) (st:=⟨tm,h⟩) (lo:=none) (hi:=some l) (l:=0) (r:=i.toNat) z hx hT hd A Z ⟨k,i,hl,by omega⟩ (by omega) (by omega) u;rw[show(xs.drop 0).take (i.toNat-0)=ys by rw[<-C];rfl]at this;exact wO this B hk
def ru (C:qI P TT) {A:Operand} {xs ys:List AV} {B:IntKind} {i j:Int} (hx:yW (zL tm) x= .sl nn xs) (hl:yW (zL tm) l= .s (.int k i)) (u:yW (zL tm) A= .s (.int B j)) (hT:TT[T]? =some ti) (hd:ti.d= .slice e) (E:TT[e]? =some te)
 (z:∀y,xs[0]? =some y->ln y.cells=te.size) (h0:0<=i) (h1:i<=j) (h2:j<=ln xs) (I:(xs.drop i.toNat).take (j.toNat-i.toNat)=ys) (G:Nat.blt t m=true) (hk:yP P F m ops dr rest ⟨(t,.sl nn ys)::tm,h⟩ (⟨true,[],[]⟩::fs) Q):
  yP P F m ops dr (⟨some t,.slice T x (some l) (some A) none,ty,pos,after,none⟩::rest) ⟨tm,h⟩ fs Q:=by
 have:=aC (P:=P) (st:=⟨tm,h⟩) (lo:=some l) (hi:=some A) (l:=i.toNat) (r:=j.toNat) C hx hT hd E ⟨k,i,hl,by omega⟩ ⟨B,j,u,by omega⟩ (by omega) (by omega) z;rw[I]at this;exact wO this G hk
end
def iI (n:Int):AV:= .s (.int .i64 n)
def Ue (TT:List TI):Nat->List (Nat×Nat)->Bool
 |_,[]=>true
 | o,(p,t)::r=>Nat.beq p o&&((match TT[t]? with
  |some ti=>(match ti.d with
   | .int .i64=>true
   |_=>false)
  |none=>false)&&Ue TT (o+1) r)
def ID {TT:List TI} (u:qI P TT) (z:TT[t]? =some ti) (hk:ti.d= .int .i64) (w:World) {cs:Array Value} {v:Value} (hv:cs[off]? =some v):(part t cs off).run P w= .ok v w:=by
 unfold part;simp[IY (u _ _ z) w,hk,TD.agg,hv]
theorem TH {TT:List TI} (C:qI P TT) (d:Nat) (w:World) (xs ys:Array Value):∀(fs:List Field) (o:Nat) (ms ns:List Int),Ue TT o (fs.map λf=>(f.offset,f.type))=true->(fs.all λf=>f.name != "_")=true->ln ms=ln fs->ln ns=ln fs->
  (∀i,i<ln ms->xs[o+i]? =some (.int .i64 (ms.getD i 0)))->(∀i,i<ln ns->ys[o+i]? =some (.int .i64 (ns.getD i 0)))->(Op.eqFields (d+1) xs ys fs).run P w= .ok (ms==ns) w
 | [],o,ms,ns,_,_,h1,h2,_,_=>by
  obtain rfl:=zA5 h1;obtain rfl:=zA5 h2;rfl
 |f::fs,o,[],ns,_,_,h1,_,_,_=>by simp at h1
 |f::fs,o,m::ms,[],_,_,_,h2,_,_=>by simp at h2
 | f::fs,o,m::ms,n::ns,L,G,h1,h2,hx,M=>by
  simp only[zBc,Ue,zAi]at L;simp only[zE6,zAi,zC2,zD0]at G;obtain⟨e1,B,e3⟩:=L;have e1:=zA3 e1;split at B
  .rename_i ti z;split at B
   .rename_i hd;obtain⟨_,u,_,_,S,_,E,_⟩:=vO (C _ _ z);obtain rfl:=IZ (E.symm.trans hd);have O:=ID (off:=f.offset) C z hd w (cs:=xs) (v:= .int .i64 m) (by rw[e1];have:=hx 0 yE;simpa using this);have R:=ID (off:=f.offset) C z hd w (cs:=ys) (v:= .int .i64 n) (by rw[e1];have:=M 0 yE;simpa using this);have U:=TH C d w xs ys fs (o+1) ms ns e3 (by simpa using G.2) JD JE (λi hi=>by have:=hx (i+1) NL;rw[show o+1+i=o+(i+1) by omega];simpa using this) (λi hi=>by have:=M (i+1) NL;rw[show o+1+i=o+(i+1) by omega];simpa using this);have I:f.name≠ "_" :=G.1;simp only[Op.eqFields,I,zD0,zEg,zEk,Sem.run_bind,O,R,Result.andThen_ok,run_equalIn_int w d f.type .i64 .i64 m n S];by_cases A:m=n
    .subst A;simp[U]
    .simp[A]
   .cases B
  .cases B
theorem YY {TT:List TI} (hP:qI P TT) {tm:List (Nat×AV)} {h:List (Nat×xM)} {fl:List (Nat×Nat)} {ms ns:List Int} {op:BinOp} {v:Bool} (hx:yW (zL tm) x= .agg (ms.map iI)) (hy:yW (zL tm) y= .agg (ns.map iI)) (hT:TT[T]? =some ti) (hd:ti.d= .str fl) (ap:Ue TT 0 fl=true)
 (R:Nat.beq (ln ms) (ln fl)=true) (S:Nat.beq (ln ns) (ln fl)=true) (ax:P.stoodInHeld T=false) (hg:P.eqGuardType P.depth T=false) (au:((P.fieldsOf T).toList.all λf=>f.name != "_")=true) (av:op= .eql/\v=(ms==ns)\/op= .neq/\v= !(ms==ns)):
  wZ P ⟨tm,h⟩ (.binOp op T x y ty) (.s (.bool v)) [] [] []:=
 yZ λo X a3 hh w β a ho O _ HH Ht=>by
  obtain⟨az,a2,a1,pos,V,W⟩:=o;dsimp only at ho;subst ho;have h1:=dE Ht O (x:=x) uL hx;have h2:=dE Ht O (x:=y) uL hy;obtain⟨_,u,_,_,hu,_,ag,_⟩:=vO (hP _ _ hT);obtain⟨f,rfl,M⟩:=Ua (ag.symm.trans hd);have G:P.fieldsOf T=f:=by unfold Program.fieldsOf;rw[hu]
  have R:=zA3 R;have S:=zA3 S;have ar:ln fl=ln f.toList:=by rw[<-M];simp
  have z:∀(l:List Int) (c:Value),yF w (xT X β) hh β (.agg (l.map iI)) c->∃cs:Array Value,c= .agg cs/\∀i,i<ln l->cs[i]? =some (.int .i64 (l.getD i 0)):=λl c hc=>by
   have B:∀i,i<ln l->(l.map iI)[i]? =some (iI (l.getD i 0)):=λi hi=>by simp[pi,hi]
   cases hc with
   | fz _ _ hf=>
    cases hf with
    |agg _ cs hl _ I=>
     refine⟨cs,rfl,λi hi=>?_⟩;have:=I i _ (B i hi);have A:i<cs.size:=by rw[hl];simpa using hi
     unfold iI at this;have e:cs.getD i undef=cs[i]:=by simp[zA4,A]
     rw[e]at this;rw[zEc A];generalize cs[i]=c at this;cases this;rfl
   |agg _ cs hl _ I=>
    refine⟨cs,rfl,λi hi=>?_⟩;have:=I i _ (B i hi);have A:i<cs.size:=by rw[hl];simpa using hi
    have e:cs.getD i undef=cs[i]:=by simp[zA4,A]
    rw[e]at this;rw[zEc A];unfold iI at this;rw[this.s_inv]
  obtain⟨C,ex,Y⟩:=z ms _ h1;obtain⟨E,ey,ac⟩:=z ns _ h2;have U:=TH hP 9998 w C E f.toList 0 ms ns (by rw[M];exact ap) (by rw[<-G];exact au) (by omega) (by omega) (λi hi=>by simpa using Y i hi) (λi hi=>by simpa using ac i hi)
  have L:(Op.equalIn 10000 T (.agg C) (.agg E)).run P w= .ok (ms==ns) w:=by
   rw[show(10000:Nat)=9999+1 from Z,run_equalIn_agg w 9999 T C E (by rw[G];exact hu) ax,G];exact U
  refine⟨.bool v,?_,.fz _ _ (.s _)⟩
  rcases av with⟨rfl,rfl⟩|⟨rfl,rfl⟩
  .simp[execOp,ex,ey,run_eqGuard_agg w _ T x y C E hg,run_eql_struct w T C E,L]
  .simp[execOp,ex,ey,run_eqGuard_agg w _ T x y C E hg,run_neq_struct w T C E,L]
theorem yF.offK {D D':Nat->Prop} {h':yM} {β':uH} (k:Nat) (E:∀b,D' b->D b) (hh:∀j,j≠k->h' j=h j) (hβ:∀j,j≠k->β' j=β j) {v:AV} {c:Value} (hv:yF w D h β v c):k∉v.refs->yF w D' h' β' v c:=by
 induction hv with
 |fz v c G=>exact λ_=> .fz v c (G.less E)
 |agg cs c hl h1 C A=>exact λhk=> .agg cs c hl h1 λi v hv=>A i v hv λz=>hk (wT hv z)
 |fn f u c hl C A=>exact λhk=> .fn f u c hl λi v hv=>A i v hv λz=>hk (wT hv z)
 |tup M c hl C A=>exact λhk=> .tup M c hl λi v hv=>A i v hv λz=>hk (wT hv z)
 |dref j off len c hk' h1=>exact λhk=> .dref j off len c (by rw[hh j (λe=>hk (by simp[AV.refs,e]))];exact hk') h1
 |dptr j i off c hk' h1=>exact λhk=> .dptr j i off c (by rw[hh j (λe=>hk (by simp[AV.refs,e]))];exact hk') h1
 |ref j off len sz xs st b n cap hk' hb B hc L=>
  intro hk;have hj:j≠k:=λe=>hk (by simp[AV.refs,e])
  exact .ref j off len sz xs st b n cap NM Xd B hc L
 |ref0 j off sz xs st a hk' B=>
  intro hk;have hj:j≠k:=λe=>hk (by simp[AV.refs,e])
  exact .ref0 j off sz xs st a NM B
 |pbox j off cs b n hk' hb=>
  intro hk;have hj:j≠k:=λe=>hk (by simp[AV.refs,e])
  exact .pbox j off cs b n NM Xd
 |parr j i off sz xs st b n hk' hb hi I=>
  intro hk;have hj:j≠k:=λe=>hk (by simp[AV.refs,e])
  exact .parr j i off sz xs st b n NM Xd hi I
def AV.isGh:AV->Bool
 | .gh _=>true
 |_=>false
variable {v v' xv:AV}{xs ys:List AV}
section
variable {P:Program} {K0:List Nat} {F:Fr K0} {m:Nat} {tm:List (Nat×AV)} {h:List (Nat×xM)}
def su (k:Nat):xM->Bool
 | .box cs=>!(jH cs).contains k
 | .obj cs=>true
 | .arr _ xs fl=>bif fl.nest then !(jH xs).contains k else true
 | .dead=>true
theorem wV.compact (R:wV F m ⟨tm,h⟩ a w) (k:Nat) (ws:List Nat) (hk:zD h k=some (.arr sz xs ⟨sb,false⟩)) (I:K0.contains k=false) (a3:ws.map (zL tm)=ws.map λ_=> .ref k 0 (ln xs))
 (a2:tm.all (λp=>ws.contains p.1|| !p.2.refs.contains k)=true) (ap:h.all (λp=>su k p.2)=true):wV F m ⟨tm,(k,.arr sz xs false)::h⟩ a w:=by
 obtain⟨⟨X,β,hX,H,Ht,G,hJ,hD⟩,nd,gs,hl⟩:=R;have hE:=H.ent k _ hk;obtain⟨e1,e2,e3,e4,e5,f,e6,e7,e8⟩:=hE
 let β':uH:=λj=>if j=k then(β k).take 1 else β j
 have z:∀j b n,(b,n)∈β' j->(b,n)∈β j:=λj b n u=>by
  grind
 have C:∀b,xT X β' b->xT X β b:=λb hd=>hd.imp id λ⟨j,n,u⟩=>⟨j,n,z j b n u⟩
 have B:∀j,j≠k->zD ((k,.arr sz xs false)::h) j=zD h j:=λj hj=>by rw[xV,hW hj]
 have L:zD ((k,.arr sz xs false)::h) k=some (.arr sz xs false):=by rw[xV,Os Z]
 have A:∀j,j≠k->β' j=β j:=λj hj=>by dsimp only[β'];rw[hW hj]
 have W:β' k=(β k).take 1:=by dsimp only[β'];rw[Os Z]
 have ac:∀c,yF w (xT X β) (zD h) β (.ref k 0 (ln xs)) c->yF w (xT X β') (zD ((k,.arr sz xs false)::h)) β' (.ref k 0 (ln xs)) c:=λc hc=>by
  generalize hn:ln xs=n at hc
  cases hc with
  |fz _ _ hf=>cases hf
  |dref _ _ _ _ hd _=>exact absurd hd (nd k)
  | ref _ _ _ Y ag st' b n' cap S hb ar av a1=>
   rw[hk]at S;cases S;refine .ref k 0 n sz xs false b n' cap L ?_ ar av a1;rw[W]
   cases hbk:β k with
   |nil=>rw[hbk]at hb;simp at hb
   |cons p r=>
    rw[hbk]at hb;obtain⟨b0,n0⟩:=p;obtain⟨_,_,g3⟩:=e5 b0 n0 r hbk
    rcases zBx.1 hb with h1|h1
    .rw[h1];simp
    .exfalso;have:=g3 b n' h1;omega
  |ref0 _ _ Y ag st' ad S ar=>exact .ref0 k 0 sz xs false ad L (zAn _)
 have au:∀t,yF w (xT X β') (zD ((k,.arr sz xs false)::h)) β' (zL tm t) (a.eval (.tmp t)):=λt=>by
  by_cases hw:t∈ws
  .obtain⟨i,hi⟩:=zDg hw;have e:=zAt (·[i]?) a3;simp only[zAh,hi,zB8,zBw]at e;have:=Ht t;dsimp only at this;rw[e]at this⊢;exact ac _ this
  .refine(Ht t).offK k C B A ?_;dsimp only;intro u
   have key:∀(l:List (Nat×AV)),l.all (λp=>ws.contains p.1|| !p.2.refs.contains k)=true->k∈(zL l t).refs->False:=λl=>by
    induction l with
    |nil=>intro _ u;simp[zL,AV.refs]at u
    | cons p r ih=>
     obtain⟨j,v⟩:=p;intro hl u;rw[xL]at u;simp only[zE6,zAi]at hl;split at u
     .rename_i e;subst e;have h1:=hl.1;simp only[zCk,zCw,zCr,zD4]at h1
      rcases h1 with h1|h1
      .exact hw h1
      .exact h1 (by simpa using u)
     .exact ih hl.2 u
   exact key tm a2 u
 have H':jW X (zD ((k,.arr sz xs false)::h)) β' w:=by
  refine⟨λj e E=>?_,λj hj=>?_,λj j' b n n' h1 h2=>H.disj j j' b n n' (z _ _ _ h1) (z _ _ _ h2),λj b n u=>H.free j b n (z _ _ _ u),λb hd=>H.lt b (C b hd)⟩
  .by_cases hj:j=k
   .subst hj;rw[L]at E;cases E;refine⟨e1,e2,λhx=>?_,e4,λb n r M=>?_,f,.ofF λi x l v hx hv=>(e6.toF Z i x l v hx hv).less C,e7,λb n u=>e8 b n (z _ _ _ u)⟩
    .rw[W];have:=e3 hx
     cases hbk:β j with
     |nil=>exact absurd hbk this
     |cons p r=>simp
    .rw[W]at M
     cases hbk:β j with
     |nil=>rw[hbk]at M;simp at M
     |cons p r'=>
      rw[hbk]at M;simp only[List.take_succ_cons,zDe,List.cons.injEq]at M;obtain⟨hp,M⟩:=M;subst M;rw[hp]at hbk;obtain⟨g1,_,_⟩:=e5 b n r' hbk;exact⟨g1,λ_ b' n' u=>by simp at u,λb' n' u=>by simp at u⟩
   .rw[B j hj]at E;have hE:=H.ent j e E
    cases e with
    |dead=>exact absurd E (nd j)
    |box cs=>
     obtain⟨b,c,el,g1,g2,g3,g4,g5⟩:=hE;refine⟨b,c,el,by rw[A j hj];exact g1,g2,g3,g4,λi v hv=>(g5 i v hv).offK k C B A λu=>?_⟩;obtain⟨p,hp,V⟩:=dP E;have:=zAm.1 ap p hp;rw[V]at this;have U:=wT hv u;simp only[su,zCr,zD4]at this;exact this (by simpa using U)
    |obj cs=>
     exact⟨by rw[A j hj];exact hE.1,hE.2⟩
    | arr Y ag st'=>
     obtain⟨g1,g2,g3,g4,g5,f',g6,g7,g8⟩:=hE;refine⟨g1,g2,by rw[A j hj];exact g3,g4,by rw[A j hj];exact g5,f',λi x l v hx hv=>?_,g7,by rw[A j hj];exact g8⟩
     cases hn:st'.nest with
     |false=>exact⟨.fz _ _ ((g6.toF hn i x l v hx hv).less C),λ_=>(g6.toF hn i x l v hx hv).less C⟩
     |true=>
      refine⟨(g6.toV i x l v hx hv).offK k C B A λu=>?_,λh0=>by cases h0⟩;obtain⟨p,hp,V⟩:=dP E;have:=zAm.1 ap p hp;rw[V]at this;simp only[su,hn,zBk]at this;have U:=wT hx (XY hv u);simp only[zCr,zD4]at this;exact this (by simpa using U)
  .rw[xV]at hj;split at hj
   .cases hj
   .rename_i az;rw[A j az];exact H.off j hj
 have ax:∀b n,(b,n)∉F.β0 k:=λb n u=>by
  have:=F.hK k b n u;simp only[zD4]at I;exact I Zd
 refine⟨⟨X,β',hX,H',au,⟨λj e E=>?_,G.size,G.keep,λj b n u=>G.own j b n (z _ _ _ u),λj b n u=>?_,G.bs,G.os,G.tape,G.output⟩,λi hi=>?_,hD⟩,λj=>?_,gs,hl⟩
 .have hj:j≠k:=λe'=>by
   subst e';have:=F.hh j e E;simp only[zD4]at I;exact I Zd
  have:=G.knd j e E
  cases e with
  |dead=>exact this
  |box cs=>obtain⟨O,h2⟩:=this;exact⟨O,by dsimp only;rw[B j hj];exact h2⟩
  |obj cs=>obtain⟨O,h2⟩:=this;exact⟨O,by dsimp only;rw[B j hj];exact h2⟩
  |arr Y ag a6=>obtain⟨a5,a4,h2,h3⟩:=this;exact⟨a5,a4,by dsimp only;rw[B j hj];exact h2,h3⟩
 .have hj:j≠k:=λe'=>by subst e';exact ax b n u
  rw[A j hj];exact G.pas j b n u
 .exact F.Jst i _ X w w _ (hJ i hi) (zAe _) (λ_ _ _=>rfl) (λb ⟨j,n,u⟩=> .inl ⟨j,n,z _ _ _ u⟩) (λb ⟨j,n,u⟩=>H.lt b (.inr ⟨j,n,z _ _ _ u⟩)) Z Z Z
 .dsimp only;by_cases hj:j=k
  .subst hj;rw[L];intro hd;cases hd
  .rw[B j hj];exact nd j
theorem wV.flag (R:wV F m ⟨tm,h⟩ a w) (k:Nat) {st:Fl} (fl:Fl) (q1:fl.stale=false->st.stale=false) (q2:fl.nest=false->st.nest=false) (hk:zD h k=some (.arr sz xs st)):wV F m ⟨tm,(k,.arr sz xs fl)::h⟩ a w:=by
 obtain⟨⟨X,β,hX,H,Ht,B,hJ,hD⟩,nd,gs,hl⟩:=R;have z:∀j,j≠k->zD ((k,.arr sz xs fl)::h) j=zD h j:=λj hj=>by rw[xV,hW hj]
 have G:zD ((k,.arr sz xs fl)::h) k=some (.arr sz xs fl):=by rw[xV,Os Z]
 have E:DA w (xT X β) (zD h) β w (xT X β) (zD ((k,.arr sz xs fl)::h)) β:=⟨zAe _,λb _ hd=>⟨rfl,hd⟩,λ_ _ _ _=>rfl,λj e A=>by
  by_cases hj:j=k
  .subst hj;rw[hk]at A;cases A;exact .inr ⟨⟨xs,fl,G,zAe _⟩,λb n hm=>⟨n,zAe _,hm⟩⟩
  .have:=kY (zD h) β j e A
   rcases this with h1|h1
   .exact .inl (by rw[z j hj];exact h1)
   .refine .inr ?_
    cases e with
    |dead=>exact h1
    |box cs=>obtain⟨⟨u,h2⟩,C⟩:=h1;exact⟨⟨u,by rw[z j hj];exact h2⟩,C⟩
    |obj cs=>obtain⟨⟨u,h2⟩,C⟩:=h1;exact⟨⟨u,by rw[z j hj];exact h2⟩,C⟩
    |arr L M st'=>obtain⟨⟨x2,s2,h2,C⟩,h4⟩:=h1;exact⟨⟨x2,s2,by rw[z j hj];exact h2,C⟩,h4⟩⟩
 have Y:jW X (zD ((k,.arr sz xs fl)::h)) β w:=by
  refine⟨λj e A=>?_,λj hj=>?_,H.disj,H.free,H.lt⟩
  .by_cases hj:j=k
   .subst hj;rw[G]at A;cases A;obtain⟨e1,e2,e3,e4,S,f,W,e7⟩:=H.ent j _ hk;exact⟨e1,e2,e3,e4,λb n r U=>⟨(S b n r U).1,λh=>(S b n r U).2.1 (q1 h),(S b n r U).2.2⟩,f,λi x l v hx hv=>⟨(W.toV i x l v hx hv).evo E,λh=>(W.toF (q2 h) i x l v hx hv).evo E.size E.fz⟩,e7⟩
   .rw[z j hj]at A;exact(H.ent j e A).evo E Z λ_ _ _=>rfl
  .rw[xV]at hj;split at hj
   .cases hj
   .exact H.off j hj
 refine⟨⟨X,β,hX,Y,λt=>(Ht t).evo E,⟨λj e A=>?_,B.size,B.keep,B.own,B.pas,B.bs,B.os,B.tape,B.output⟩,hJ,hD⟩,λj=>?_,gs,hl⟩
 .have:=B.knd j e A;by_cases hj:j=k
  .subst hj
   cases e with
   |dead=>exact this
   |box cs=>obtain⟨u,h2⟩:=this;(try dsimp only at h2);rw[hk]at h2;cases h2
   |obj cs=>obtain⟨u,h2⟩:=this;(try dsimp only at h2);rw[hk]at h2;cases h2
   |arr L M V=>obtain⟨O,I,h2,C⟩:=this;(try dsimp only at h2);rw[hk]at h2;cases h2;exact⟨xs,fl,G,C⟩
  .cases e with
   |dead=>exact this
   |box cs=>obtain⟨u,h2⟩:=this;exact⟨u,by dsimp only;rw[z j hj];exact h2⟩
   |obj cs=>obtain⟨u,h2⟩:=this;exact⟨u,by dsimp only;rw[z j hj];exact h2⟩
   |arr L M V=>obtain⟨O,I,h2,C⟩:=this;exact⟨O,I,by dsimp only;rw[z j hj];exact h2,C⟩
 all_goals grind
def vY (k:Nat) (hk:zD h k=some (.arr sz xs ⟨sb,false⟩)) (u:uG P F m c ⟨tm,(k,.arr sz xs true)::h⟩ Q):uG P F m c ⟨tm,h⟩ Q:=
 ⟨λa w R=>u.run a w (R.flag k true (λh=>by cases h) (λ_=>rfl) hk)⟩
def Wn (k:Nat) (hk:zD h k=some (.arr sz xs ⟨sb,false⟩)) (u:uG P F m c ⟨tm,(k,.arr sz xs ⟨sb,true⟩)::h⟩ Q):uG P F m c ⟨tm,h⟩ Q:=
 ⟨λa w R=>u.run a w (R.flag (st:=⟨sb,false⟩) k ⟨sb,true⟩ (λh=>h) (λh=>Bool.noConfusion h) hk)⟩
theorem wV.wkT (R:wV F m ⟨tm,h⟩ a w) (t:Nat) (hv:zL tm t=v) (G:ZA v=v') (I:∀i,v'≠ .gh i):wV F m ⟨(t,v')::tm,h⟩ a w:=by
 obtain⟨⟨X,β,B,H,u,z,E,A⟩,C,gs,hl⟩:=R;refine⟨⟨X,β,B,H,λj=>?_,z,λi hi=>?_,A⟩,C,gs,hl⟩
 .rw[xL];split
  .rename_i hj;subst hj;have:=(u j).wk
   grind
  .exact u j
 all_goals grind [wV,zL,ZA]
def XH {u:Array Oper} {l:List Oper} {fs:List FP} {Q:List FP->St->Prop} (t:Nat) (hv:zL tm t=v) (A:ZA v=v') (z:v'.isGh=false) (hk:yP P F m u false l ⟨(t,v')::tm,h⟩ fs Q):yP P F m u false l ⟨tm,h⟩ fs Q:=
 ⟨λa w R=>hk.run a w (R.wkT t hv A λi hi=>by rw[hi]at z;cases z)⟩
def Vn (t:Nat) (hv:zL tm t=v) (z:ZA v=v') (u:v'.isGh=false) (hk:uG P F m c ⟨(t,v')::tm,h⟩ Q):uG P F m c ⟨tm,h⟩ Q:=
 ⟨λa w R=>hk.run a w (R.wkT t hv z λi hi=>by rw[hi]at u;cases u)⟩
def kV (k:Nat) (u:List Nat) (hk:zD h k=some (.arr sz xs ⟨sb,false⟩)) (z:K0.contains k=false) (C:u.map (zL tm)=u.map λ_=> .ref k 0 (ln xs))
 (B:tm.all (λp=>u.contains p.1|| !p.2.refs.contains k)=true) (A:h.all (λp=>su k p.2)=true) (E:uG P F m c ⟨tm,(k,.arr sz xs false)::h⟩ Q):uG P F m c ⟨tm,h⟩ Q:=
 ⟨λa w R=>E.run a w (R.compact k u hk z C B A)⟩
end
def p2 (n:Int):Int:=2 ^ n.toNat
def wY (m n:Int):Int:=m.fdiv (2 ^ n.toNat)
theorem BO (n:Int) (h:n<=40):1<=p2 n/\p2 n<=1099511627776:=by
 unfold p2;have h1:(2:Int) ^ n.toNat=((2 ^ n.toNat:Nat):Int):=by simp
 have h2:2 ^ n.toNat<=2 ^ 40:=zEr (by omega) (by omega)
 grind
section
variable {P:Program} {tm:List (Nat×AV)} {h:List (Nat×xM)} {tx ty:Nat} {x y:Operand}
def Un {z:IntKind} {n:Int} (hx:yW (zL tm) x= .s (.int .i64 1)) (u:yW (zL tm) y= .s (.int z n)) (h0:0<=n/\n<=40):wZ P ⟨tm,h⟩ (.binOp .shl tx x y ty) (.s (.int .i64 (p2 n))) [] [] []:=by
 have e:IntKind.i64.wrap (1*2 ^ (min n.toNat IntKind.i64.bits))=p2 n:=by
  have hb:IntKind.i64.bits=64:=rfl;have h1:=BO n h0.2;rw[hb,show min n.toNat 64=n.toNat by omega,zEw];exact jX (k:= .i64) ⟨by unfold p2 at h1;show -9223372036854775808<=_;omega,by unfold p2 at h1;show _<=9223372036854775807;omega⟩
 rw[<-e];exact YN (.inl ⟨rfl,rfl⟩) hx u h0.1
theorem Tn {z:IntKind} {n:Int} (hx:yW (zL tm) x= .s (.int .i64 m)) (u:yW (zL tm) y= .s (.int z n)) (h0:0<=n/\n<=40):wZ P ⟨tm,h⟩ (.binOp .shr tx x y ty) (.s (.int .i64 (wY m n))) [] [] []:=by
 have hb:IntKind.i64.bits=64:=rfl;refine YN (.inr ⟨rfl,?_⟩) hx u h0.1
 grind [yW,zL,wY]
end
section
variable {P:Program} {K0:List Nat} {F:Fr K0} {m:Nat}
def dV {x y:Code} (K z:List Nat) (u:St) (A:K0.all (K.contains ·)=true) (h1:uG P F m x st (λe s=>e= .normal/\restr K z s=u)) (h2:uG P F m y u Q):uG P F m x st (KT P F m y Q):=
 ⟨λa w H=>Code.wpIn_mono (λe a' w' ⟨s,⟨he,hs⟩,hr⟩=>by subst he;exact⟨u,h2,hs▸wV.restr hr K z A⟩) (h1.run a w H)⟩
end
section
variable {P:Program} {tm:List (Nat×AV)} {h:List (Nat×xM)} {tx ty:Nat} {x y:Operand}
def Cb {a:List Int} {v:Bool} (hx:yW (zL tm) x= .s (.string (strOfNums a))) (u:yW (zL tm) y= .s (.string (strOfNums b))) (hv:sn a b=v):wZ P ⟨tm,h⟩ (.binOp .eql tx x y ty) (.s (.bool v)) [] [] []:=hv▸IB hx u
def Bb {a:List Int} {v:Bool} (hx:yW (zL tm) x= .s (.string (strOfNums a))) (u:yW (zL tm) y= .s (.string (strOfNums b))) (hv:sn a b=v):wZ P ⟨tm,h⟩ (.binOp .neq tx x y ty) (.s (.bool (!v))) [] [] []:=hv▸IC hx u
end
section
variable {P:Program} {K0:List Nat} {F:Fr K0} {m:Nat} {TT:List TI} {ops:Array Oper} {dr:Bool} {rest:List Oper} {tm:List (Nat×AV)} {h:List (Nat×xM)} {fs:List FP} {Q:List FP->St->Prop} {t ty:Nat} {pos:String} {after:Array Edge}
def aO (u:Nat) (S:qI P TT) {n:Nat} {kx ky:IntKind} {R:Int} {z:AV} (hx:yW (zL tm) x= .s (.int kx nx)) (Y:yW (zL tm) y= .s (.int ky R)) (hT:TT[T]? =some ti) (hd:ti.d= .slice e) (U:TT[e]? =some te)
 (hb:Nat.ble te.bytes 65536=true) (W:Nat.ble 1 te.size=true) (O:Nat.beq (ln te.zero) te.size=true) (L:te.zero.all (·.oneCell')=true) (M:Nat.beq (kQ te).cells.length te.size=true) (B:(kQ te).cells=te.zero.map .s) (hz:kQ te=z)
 (E:nx=(n:Int)) (G:nx<=R) (A:R<=1073741824) (V:Nat.blt t m=true) (C:(zD h u).isNone=true)
 (I:te.size=sz) (hk:yP P F m ops dr rest ⟨(t,.ref u 0 n)::tm,(u,.arr sz (pg n z) false)::h⟩ (⟨true,[u,u],[]⟩::fs) Q):yP P F m ops dr (⟨some t,.makeSlice T x y,ty,pos,after,none⟩::rest) ⟨tm,h⟩ fs Q:=by
 subst I hz;exact qH (nw:=[u]) (XQ S u hx Y hT hd U E G A hb W O L M B) V (Of C) Z hk
end
section
variable {P:Program} {TT:List TI} {st:St}
theorem Eg (hP:qI P TT) {I n:Nat} {tn:TI} {k0:IntKind} (kn:Nat) (hs:yW (zL st.tm) s= .s (.slice none 0 0)) (hx:yW (zL st.tm) x= .s (.int .i64 nx)) (hT:TT[T]? =some ti) (hd:ti.d= .slice e) (he:TT[e]? =some te) (hI:TT[I]? =some tn) (a1:tn.d= .int k0)
 (a7:nx=(n:Int)) (B:1<=n) (Y:n<=1073741824) (hb:Nat.ble te.bytes 65536=true) (hp:Nat.ble 1 te.size=true) (O:Nat.beq (ln te.zero) te.size=true) (L:te.zero.all (·.oneCell')=true) (M:Nat.beq (kQ te).cells.length te.size=true) (ar:(kQ te).cells=te.zero.map .s):
  wZ P st (.call ⟨.builtin .append, #[s,x], #[T,I]⟩) (.ref kn 0 n) [(kn,.arr te.size (pg n (kQ te)) false)] [] [kn]:=by
 refine⟨?_⟩;intro X tm h hg _ hn o a w β ho HH Ht;obtain⟨d0,o0,y0,p0,f0,g0⟩:=o;dsimp only at ho;subst ho;have h1:=vP Ht hg (x:=s) gR hs;have h2:=vP Ht hg (x:=x) gR hx;have hp:=zAq hp;have hb:=zAq hb;have O:=zA3 O;have M:=zA3 M;subst a7;obtain⟨i,z,C,hi,hz,e1,e2,e3⟩:=vU hP hT hd he;obtain⟨_,u2,_,_,a9,_,az,_⟩:=vO (hP _ _ hI);obtain rfl:=IZ (az.symm.trans a1)
 have au:n*i.bytes<=281474976710656:=by
  have:=zDo Y (show i.bytes<=65536 by omega);omega
 have hw:IntKind.i64.wrap (n:Int)=(n:Int):=jX ⟨by show(-9223372036854775808:Int)<=_;omega,by show _<=(9223372036854775807:Int);omega⟩
 have a8:n*i.size≠0:=by
  have:1*1<=n*i.size:=zDo B (by omega);omega
 have av:¬(281474976710656<(n:Int)*(i.bytes:Int)):=by
  grind
 have U:¬(281474976710656<Builtin.nextslicecap n 0*i.bytes):=by rw[nextslicecap_zero B];omega
 have ax:¬(9223372036854775807<(n:Int)):=by omega
 have a5:n≠0:=by omega
 have ac:¬((n:Int)<0):=by omega
 have ag:(Builtin.append_ #[T,I] y0 #[.slice none 0 0,.int .i64 (n:Int)]).run P w= .ok (.slice (some ⟨w.heap.size,0,none⟩) n (grownCap w n 0 e)) (w.drew.alloc (.cells (Builtin.zeroCells z.cells n++Builtin.zeroCells z.cells (grownCap w n 0 e-n)) e)):=by
  have ha:(asIntOf (.int .i64 (n:Int))).run P w= .ok (.i64,(n:Int)) w:=rfl;have a6:¬((n:Int)<=0):=by omega
  simp[Builtin.append_,run_underlying C,run_underlying a9,sizeOf,typeInfo,zeroValue,hi,hz,asInt,ha,hw,ac,a6,av,a8,a5,ax,U,Question.forced,run_firstCells_none,newRow,grownCap]
 have a2:(execOp a.eval ⟨d0,.call ⟨.builtin .append, #[s,x], #[T,I]⟩,y0,p0,f0,g0⟩).run P w= .ok (.value (.slice (some ⟨w.heap.size,0,none⟩) n (grownCap w n 0 e))) (w.drew.alloc (.cells (Builtin.zeroCells z.cells n++Builtin.zeroCells z.cells (grownCap w n 0 e-n)) e)):=by
  simp[execOp,resolve,invoke,builtin,h1,h2,ag]
 rw[a2];have HD:=HH.drew (w.drawn+1);have R:z.cells.size=te.size:=by rw[<-O,<-e3];simp
 have bk:=grownCap_ge w n 0 e;have A:(pg n (kQ te)).length=n:=by simp
 have V:∀(j:Nat) v,(pg n (kQ te))[j]? =some v->v=kQ te:=λj v hv=>by
  grind
 have E:∀j,j<te.size->∃v,te.zero[j]? =some v/\z.cells.getD j undef=v:=λj hj=>by
  have:=jA z.cells j (by omega)
  grind
 obtain⟨β',G,hv⟩:=xX.newArr HD (hn kn yE) (Builtin.zeroCells z.cells n++Builtin.zeroCells z.cells (grownCap w n 0 e-n)) e te.size (pg n (kQ te)) (grownCap w n 0 e) (λ_ j=>z.cells.getD j undef) hp (by rw[A];unfold cD;omega) (by rw[A];omega) (by
   simp only[zE8,size_zeroCells,R,<-zBl]
   congr 1;omega) (kP.get ((kP.zero (λv hv=>zAm.1 L v EX) _).app (kP.zero (λv hv=>zAm.1 L v EX) _)))
  (λj v hv=>by rw[V j v hv];exact M) (λS j hi' hj=>by
   rw[A]at hi'
   have W:S*te.size+j<n*te.size:=by
    have:=zA1 te.size (show S+1<=n by omega)
    grind
   have a4:(S*te.size+j) % te.size=j:=by rw[zEe,zFj];exact zDn hj
   rw[zCm (by rw[size_zeroCells,R];exact W)];have a3:j<z.cells.size:=by omega
   simp only[Builtin.zeroCells,Array.getElem?_map,Array.getElem?_range,R,W,zEk,zB8,a4]
   congr 1
   simp[zA4,a3]) (λS j _ hj=>by
   obtain⟨v,hv,bb⟩:=E j hj;rw[bb]
   exact zAm.1 L v (zB5 hv)) (λS v j u hv C=>by
   rw[V S v hv,ar]at C;rw[zAh]at C
   have hj:j<te.size:=by
    cases ap:te.zero[j]? with
    |none=>rw[ap]at C;cases C
    |some v9=>have:=(zAx.1 ap).1;omega
   obtain⟨v2,bd,bf⟩:=E j hj;rw[bd]at C;cases C;rw[bf]
   exact .s _)
 rw[A]at hv;exact⟨β',xX.trans HH (xX.drew HH (w.drawn+1)) G,hv⟩
def MU (C:qI P TT) (hx:yW (zL st.tm) x= .s (.slice none 0 0)) (hT:TT[T]? =some ti) (hd:ti.d= .slice e):
  wZ P st (.call ⟨.builtin .cap, #[x], #[T]⟩) (.s (.int .i64 0)) [] [] []:=
 yZ λI X U h w β a A E R L B=>by
  obtain⟨d0,o0,V,S,M,O⟩:=I;dsimp only at A;subst A;have hc:=vP B E (x:=x) gR hx;obtain⟨u,G,z⟩:=vX (C _ _ hT) w;obtain rfl:=kO (z.trans hd);exact⟨_,by simp[execOp,resolve,invoke,builtin,Builtin.cap_,hc,G,goInt],.fz _ _ (.s _)⟩
def Ab (C:qI P TT) (hx:yW (zL st.tm) x= .s (.slice none 0 0)) (hl:yW (zL st.tm) l= .s (.int k 0)) (hT:TT[T]? =some ti) (hd:ti.d= .slice e) (I:TT[e]? =some te):
  wZ P st (.slice T x none (some l) none) (.s (.slice none 0 0)) [] [] []:=
 yZ λO X Y h w β a G E V R B=>by
  obtain⟨d0,o0,y0,W,S,U⟩:=O;dsimp only at G;subst G;have hc:=vP B E (x:=x) uL hx;obtain⟨u,M,z⟩:=vX (C _ _ hT) w;obtain rfl:=kO (z.trans hd);have L:=jR (C _ _ I) w;have hb:=WI (P:=P) B E (lo:=none) (hi:=some l) (len:=0) (cap:=0) (l:=0) (r:=0) (λy A=>by cases A) (λy A=>by cases A;simp[Op.operands]) Z ⟨k,0,hl,by omega⟩ (zAe _) (zAe _) true;rw[zEs]at hb;exact⟨_,by simp only[execOp,Instr.sliceAt,Instr.slice,Sem.run_bind,M,Result.andThen_ok,hc,zEs,hb,L,Sem.run_pure];rfl,.fz _ _ (.s _)⟩
theorem Dg (hP:qI P TT) {key:Nat} {yl:List AV} (b4:yW (zL st.tm) d= .ref key off len) (hk:zD st.h key=some (.arr sz xs false)) (hx:yW (zL st.tm) x=xv) (hT:TT[T]? =some ti) (hd:ti.d= .slice e) (he:TT[e]? =some te)
 (cb:Oa (zD st.h) xv=some yl) (I:yl.take len=ys) (b9:∀y,ys[0]? =some y->ln y.cells=sz) (bu:1<=ln ys\/yl.length<=len) (a1:Nat.beq sz te.size=true):
  wZ P st (.call ⟨.builtin .copy, #[d,x], #[T,T]⟩) (.s (.int .i64 (ln ys))) [(key,.arr sz (xs.take off++ys++xs.drop (off+ln ys)) false)] (key::LI xv) []:=by
 refine⟨?_⟩;intro X tm h hg hr _ o a w β ho HH Ht;obtain⟨d0,o0,y0,p0,f0,g0⟩:=o;dsimp only at ho;subst ho;have hk':=(hr key yE).trans hk;have h1:=dE Ht hg (x:=d) gR b4;have h2:=dE Ht hg (x:=x) gR hx;have a1:=zA3 a1;obtain⟨g1,g2,g3,g4,g5,f,g6,g7,g8⟩:=HH.ent key _ hk'
 obtain⟨ad,cap,hc,_,b5,az⟩:=aD (sz:=sz) HH h2 ((dF λk' hk=>hr k' (by simp[hk])).trans cb) (λy B=>b9 y (by
  rcases bu with h|h
  .rw[<-I,zB0,Os (by have:ln ys<=len:=(by rw[<-I];simp;omega);omega)];exact B
  .rw[<-I,zAl h];exact B))
 have hn:ln ys<=len:=by rw[<-I];simp;omega
 have a4:ln ys=min len (ln yl):=by rw[<-I];simp
 have ax:min (ln yl) len=ln ys:=by rw[a4,Nat.min_comm]
 have cg:ln ys<=ln yl:=by omega
 have bx:ys≠[]->∃b o f,ad=some ⟨b,o,none⟩/\C4 w (xT X β) h β false ys sz b o f:=λb6=>by
  obtain⟨b,o,f,e,hS⟩:=az (λh0=>b6 (by rw[<-I,h0];simp))
  have bf:∀(i:Nat) y,ys[i]? =some y->yl[i]? =some y:=λi y B=>by
   rw[<-I,zB0]at B;split at B
   .exact B
   .cases B
  exact⟨b,o,f,e,λi y B=>hS.wide i y (bf i y B),λi j hi hj=>hS.cell i j (by omega) hj,λi j hi hj=>hS.one i j (by omega) hj,λi y j v B hv=>hS.rep i y j v (bf i y B) hv⟩
 obtain⟨i,z,hu,hi,cj,e1,e2,e3⟩:=vU hP hT hd he
 have br:∀b n,(b,n)∈β key->n=ln xs\/n=0:=λb n hb=>by
  cases hbk:β key with
  |nil=>rw[hbk]at hb;simp at hb
  |cons q rr=>
   obtain⟨b0,n0⟩:=q;obtain⟨q1,q2,_⟩:=g5 b0 n0 rr hbk;rw[hbk]at hb;simp at hb
   rcases hb with⟨_,rfl⟩|hb
   .exact .inl q1
   .exact .inr (q2 Z b n hb)
 have bs:∀{w'},(Builtin.copy_ #[T,T] y0 #[a.eval d,a.eval x]).run P w= .ok (goInt (ln ys)) w'->(execOp a.eval ⟨d0,.call ⟨.builtin .copy, #[d,x], #[T,T]⟩,y0,p0,f0,g0⟩).run P w= .ok (.value (.int .i64 (ln ys))) w':=λhv=>by
  simp[execOp,resolve,invoke,builtin,hv,goInt]
 by_cases L:ys=[]
 .obtain rfl:yl=[]:=by
   rcases bu with h|h
   .rw[L]at h;simp at h
   .rw[zAl h]at I;rw[I,L]
  subst L;have ca:xs.take off++[]++xs.drop (off+([]:List AV).length)=xs:=by simp
  rw[ca]
  obtain⟨bd,cp,av⟩:∃bd cp,a.eval d= .slice bd len cp:=by
   generalize a.eval d=cx at h1
   cases h1 with
   |fz _ _ hf=>cases hf
   |dref _ _ _ _ hd _=>rw[hk']at hd;cases hd
   |ref _ _ _ _ _ _ _ _ _ _ _ _ _ _=>exact⟨_,_,rfl⟩
   |ref0 _ _ _ _ _ _ _ _=>exact⟨_,_,rfl⟩
  have ag:(Builtin.firstCells i.size 0 (.slice ad 0 cap)).run P w= .ok #[] w:=by
   cases ad with
   |none=>rfl
   |some a=>simp only[Builtin.firstCells,loadCells,zDh,loadCellsFrom];rfl
  rw[bs (w':=w) (by
   rw[av,hc]
   cases bd with
   |none=>simp[Builtin.copy_,run_underlying hu,sizeOf,typeInfo,hi,Builtin.lenOf,ag]
   |some b=>simp[Builtin.copy_,run_underlying hu,sizeOf,typeInfo,hi,Builtin.lenOf,ag,storeCells])]
  have G:=xX.step (w':=w) HH key (.arr sz xs false) (β key) (zAe _) (λ_ _ _=>rfl) Z Z Z (λb n U=> .inl ⟨n,U⟩) (λ_ _ _=>rfl) (λe he=>by rw[hk']at he;cases he;exact .inr ⟨⟨_,_,rfl,zAe _⟩,λ_ n U=>⟨n,zAe _,U⟩⟩)
   (λE=>⟨g1,g2,λh=>by rw[yJ];exact g3 h,g4,λb n r hr=>by rw[yJ]at hr;exact g5 b n r hr,f,gA.evo E g6,g7,λb n U=>by rw[yJ]at U;exact g8 b n U⟩)
  exact⟨_,G,.fz _ _ (.s _)⟩
 obtain⟨b2,q,fy,rfl,hS⟩:=bx L
 have cd:0<ln ys:=by cases ys with|nil=>exact absurd Z L|cons _ _=>simp
 obtain⟨ag,a8⟩:=hS.flat g1
 obtain⟨b,n,cp,av,M,ch,ce⟩:∃b n cp,a.eval d= .slice (some ⟨b,off*sz,none⟩) len cp/\(b,n)∈β key/\off+len<=n/\len<=cp:=by
  generalize a.eval d=cx at h1
  cases h1 with
  |fz _ _ hf=>cases hf
  |dref _ _ _ _ hd _=>rw[hk']at hd;cases hd
  |ref _ _ _ ck cl st' b n cp bk hb hn b3 ci=>
   rw[hk']at bk;cases bk;exact⟨b,n,cp,rfl,hb,hn,b3⟩
  |ref0 _ _ _ _ _ _ _ _=>omega
 have b7:n=ln xs:=by rcases br b n M with h|h<;>omega
 subst b7;obtain⟨S,el,c1,c2,c3,c4⟩:=g8 b _ M;have ap:(off+ln ys)*sz<=S.size:=zBf (zA1 _ (by omega)) c2;have a9:=run_firstCells_some (P:=P) w sz (ln ys) ⟨b2,q,none⟩ (ln yl) cap (flat fy (ln ys) sz) (yD _ _ _) ag;have a2:=run_storeCells_at P b (off*sz) el (flat fy (ln ys) sz) 0 S w c1 (by rw[yD,zCy,<-zBl];exact ap) a8;simp only[zCy]at a2;generalize O:(S.toList.take (off*sz)++flat fy (ln ys) sz++S.toList.drop (off*sz+(flat fy (ln ys) sz).length)).toArray=A at a2
 rw[bs (w':=w.setRow b A) (by
  rw[av,hc];have a5:i.size=sz:=e1.trans a1.symm;rw[<-a5]at a9;have bz:(storeCells ⟨b,off*sz,none⟩ (flat fy (ln ys) i.size)).run P w= .ok () (w.setRow b A):=by rw[a5];exact a2
  simp[Builtin.copy_,run_underlying hu,Builtin.lenOf,sizeOf,typeInfo,hi,ax,a9,bz])]
 rw[zBl]at ap
 have ar:A.size=S.size:=by
  rw[<-O];simp only[zDi,zAf,zA0,zBh,zC8,yD];omega
 have W:∀q,q<A.size->(A.getD q undef).oneCell'=true:=by
  rw[<-O];refine kP.get (kP.arr λv hv=>?_);have a7:=kP.of c4
  rcases zAy.1 hv with hv|hv
  .rcases zAy.1 hv with hv|hv
   .exact a7 v (zB6 hv)
   .exact a8 v hv
  .exact a7 v (zBo hv)
 let f':Nat->Nat->Value:=λi j=>if off<=i/\i<off+ln ys then fy (i-off) j else f i j
 have cc:off+ln ys<=ln xs:=by omega
 have R:(xs.take off++ys++xs.drop (off+ln ys)).length=ln xs:=by
  simp only[zAf,zA0,zBh];omega
 have a6:∀(i:Nat) y,(xs.take off++ys++xs.drop (off+ln ys))[i]? =some y->(off<=i/\i<off+ln ys/\ys[i-off]? =some y)\/(¬(off<=i/\i<off+ln ys)/\xs[i]? =some y):=λi y B=>by
  have ht:(xs.take off).length=off:=by simp;omega
  by_cases h5:i<off
  .rw[zA2,zA9 (by omega),zB0,Os h5]at B;exact .inr ⟨by omega,B⟩
  .by_cases h6:i<off+ln ys
   .rw[zA2,zBb (by omega),ht,zA9 (by omega)]at B;exact .inl ⟨by omega,h6,B⟩
   .rw[zBb qM]at B;simp only[zAf,ht]at B;rw[zCe,show off+ln ys+(i-(off+ln ys))=i by omega]at B;exact .inr ⟨by omega,B⟩
 have au:∀i j,i<ln xs->j<sz->A[i*sz+j]? =some (f' i j):=λi j hi hj=>by
  rw[<-O];simp only[f',zC3];by_cases h5:i<off
  .have bl:i*sz+j<off*sz:=by
    have:=zA1 sz (show i+1<=off by omega);rw[zBl,zCl]at this;omega
   rw[hW (by omega),zA2,zA9 qM,zB0,Os bl];simpa using c3 i j hi hj
  .have ht:(List.take (off*sz) S.toList).length=off*sz:=by simp;omega
   have cf:off*sz<=i*sz:=zA1 _ (by omega);by_cases h6:i<off+ln ys
   .have e4:i*sz+j-off*sz=(i-off)*sz+j:=by rw[zFk];omega
    have bl:(i-off)*sz+j<ln ys*sz:=by
     have:=zA1 sz (show(i-off)+1<=ln ys by omega);rw[zBl,zCl]at this;omega
    rw[Os (by omega),zA2,zBb (by rw[ht];omega),ht,zA9 (by rw[yD];omega),e4];exact gJ fy (by omega) hj
   .have bb:(off+ln ys)*sz<=i*sz:=zA1 _ (by omega);rw[zBl]at bb;rw[hW (by omega),zBb (by simp only[zAf,ht,yD];omega),zCe];simp only[zAf,ht,yD];rw[show off*sz+ln ys*sz+(i*sz+j-(off*sz+ln ys*sz))=i*sz+j by omega];simpa using c3 i j hi hj
 obtain⟨rr,hbk,b8⟩:∃rr,β key=(b,ln xs)::rr/\∀Y n',(Y,n')∈rr->n'=0:=by
  cases hbk:β key with
  |nil=>rw[hbk]at M;simp at M
  |cons q r=>
   obtain⟨b0,n0⟩:=q;obtain⟨q1,q2,_⟩:=g5 b0 n0 r hbk;have q2:=q2 Z;rw[hbk]at M;simp at M
   rcases M with⟨rfl,rfl⟩|U
   .exact⟨r,rfl,q2⟩
   .have:=q2 b _ U;omega
 refine⟨cT β key (β key),xX.step HH key _ _ yE (λj hj hn=>setRow_other w b j A (λe=>hn (ln xs) Yd)) Z Z Z (λb n U=> .inl ⟨n,U⟩) (λb n _=>qX c1 ar b)
  (λe he=>by rw[hk']at he;cases he;exact .inr ⟨⟨_,_,rfl,by rw[R];exact zAe _⟩,λ_ n U=>⟨n,zAe _,U⟩⟩) λE=>⟨g1,by rw[R];exact g2,λ_=>by rw[yJ,hbk];simp,λV x' a3=>?_,λY n' r C=>?_,f',λV x' j u a3 hu=>?_,λV j hi' hj=>?_,λY n' C=>?_⟩,.fz _ _ (.s _)⟩
 .rcases a6 V x' a3 with⟨_,_,h⟩|⟨_,h⟩
  .exact hS.wide _ x' h
  .exact g4 V x' h
 .rw[yJ]at C;rw[R];exact g5 Y n' r C
 .simp only[f']
  rcases a6 V x' a3 with⟨q1,q2,h⟩|⟨q1,h⟩
  .rw[Os ⟨q1,q2⟩];exact⟨(hS.rep.toV _ x' j u h hu).evo E,λ_=>(hS.rep.toF Z _ x' j u h hu).evo E.size E.fz⟩
  .rw[hW q1];exact⟨(g6.toV V x' j u h hu).evo E,λ_=>(g6.toF Z V x' j u h hu).evo E.size E.fz⟩
 .rw[R]at hi';simp only[f'];split
  .exact hS.one _ _ (by omega) hj
  .exact g7 V j hi' hj
 .rw[yJ]at C
  rcases br Y n' C with rfl|rfl
  .have ac:Y=b:=by
    rw[hbk]at C;simp at C
    rcases C with rfl|h
    .rfl
    .have:=b8 Y _ h;omega
   subst ac;exact⟨A,el,setRow_heap w _ _ _ _ _ c1,by rw[ar];exact c2,λV j hi' hj=>au V j hi' hj,W⟩
  .by_cases ac:Y=b
   .subst ac;exact⟨A,el,setRow_heap w _ _ _ _ _ c1,by omega,λV j hi' _=>by omega,W⟩
   .obtain⟨c',b1,q1,q2,_,q4⟩:=g8 Y 0 C;exact⟨c',b1,(setRow_other w b Y A ac).trans q1,q2,λV j hi' _=>by omega,q4⟩
def Sn (E:qI P TT) {key:Nat} (u:yW (zL st.tm) d= .ref key off len) (hk:zD st.h key=some (.arr sz xs false)) (hx:yW (zL st.tm) x=xv) (hT:TT[T]? =some ti) (hd:ti.d= .slice e) (G:TT[e]? =some te)
 (B:Oa (zD st.h) xv=some ys) (A:∀y,ys[0]? =some y->ln y.cells=sz) (z:Nat.beq sz te.size=true) (C:ln ys<=len):
  wZ P st (.call ⟨.builtin .copy, #[d,x], #[T,T]⟩) (.s (.int .i64 (ln ys))) [(key,.arr sz (xs.take off++ys++xs.drop (off+ln ys)) false)] (key::LI xv) []:=
 Dg E u hk hx hT hd G B (zAl C) A (.inr C) z
end
section
variable {P:Program} {K0:List Nat} {F:Fr K0} {m:Nat} {tm:List (Nat×AV)} {h:List (Nat×xM)}
theorem wV.trunc (R:wV F m ⟨tm,h⟩ a w) (t G K:Nat) {st:Fl} (M:K0=[]) (hv:zL tm t= .ref G 0 0) (hk:zD h G=some (.arr sz xs st)):wV F m ⟨[(t,.ref K 0 0)],[(K,.arr sz [] true)]⟩ a w:=by
 obtain⟨⟨X,β,hX,H,Ht,I,hJ,hD⟩,nd,gs,hl⟩:=R;have g:=H.ent G _ hk;obtain⟨g1,g2,g3,g4,g5,f,g6,g7,g8⟩:=g;have h1:=Ht t;rw[hv]at h1
 have O:∀k e,zD [(K,xM.arr sz [] true)] k=some e->k=K/\e= .arr sz [] true:=λk e C=>by
  rw[xV]at C;split at C
  .rename_i hh;cases C;exact⟨hh,rfl⟩
  .cases C
 have key:∀l:List (Nat×Nat),(∀b n,(b,n)∈l->n=0/\∃z,(b,z)∈β G)->(l=[]\/∃b,l=[(b,0)])->yF w (xT X λk=>if k=K then l else []) (zD [(K,xM.arr sz [] true)]) (λk=>if k=K then l else []) (.ref K 0 0) (a.eval (.tmp t))->wV F m ⟨[(t,.ref K 0 0)],[(K,.arr sz [] true)]⟩ a w:=by
  intro l V W S
  have B:∀k b n,(b,n)∈(if k=K then l else [])->k=K/\n=0/\∃z,(b,z)∈β G:=λk b n u=>by
   split at u
   .rename_i hh;exact⟨hh,V b n u⟩
   .simp at u
  have U:∀b,xT X (λk=>if k=K then l else []) b->xT X β b:=λb hd=>by
   rcases hd with hx|⟨k,n,u⟩
   .exact .inl hx
   .obtain⟨_,_,z,A⟩:=B k b n u;exact .inr ⟨G,z,A⟩
  have HH:jW X (zD [(K,xM.arr sz [] true)]) (λk=>if k=K then l else []) w:=by
   refine⟨λk e C=>?_,λk C=>?_,λk k' b n z q1 q2=>?_,λk b n u=>?_,λb hd=>H.lt b (U b hd)⟩
   .obtain⟨rfl,rfl⟩:=O k e C;refine⟨g1,by simp,λh=>absurd Z h,λi y Y=>by simp at Y,λb n r L=>?_,λ_ _=>undef,λi y j v Y _=>by simp at Y,λi j hi _=>by simp at hi,λb n u=>?_⟩
    ·(try dsimp only at L)
     rw[Os Z]at L
     rcases W with A|⟨b5,A⟩
     .rw[A]at L;cases L
     .rw[A]at L;cases L;exact⟨rfl,λh=>(by cases h),λb' z u=>by simp at u⟩
    .obtain⟨_,rfl,z,A⟩:=B _ b n u;obtain⟨c,el,q1,_,_,q4⟩:=g8 b z A;exact⟨c,el,q1,by omega,λi j hi _=>by omega,q4⟩
   ·(try dsimp only)
    split
    .rename_i hh;rw[hh,xV,Os Z]at C;cases C
    .rfl
   .obtain⟨r1,_⟩:=B k b n q1;obtain⟨r2,_⟩:=B k' b z q2;exact r1.trans r2.symm
   .obtain⟨_,_,z,A⟩:=B k b n u;exact H.free G b z A
  refine⟨⟨X,_,hX,HH,λj=>?_,⟨λk e C=>?_,I.size,I.keep,λk b n u=>?_,λk b n u=>?_,I.bs,I.os,I.tape,I.output⟩,λi hi=>?_,hD⟩,λk E=>?_,gs,hl⟩
  .rw[xL];split
   .rename_i hj;subst hj;exact S
   .exact .fz _ _ (.bot _)
  .have:=F.hh k e C;rw[M]at this;simp at this
  .obtain⟨_,_,z,A⟩:=B k b n u;exact I.own G b z A
  .have:=F.hK k b n u;rw[M]at this;simp at this
  .rw[xL]at hi
   split at hi<;>cases hi
  .obtain⟨_,A⟩:=O k _ E;cases A
 generalize ap:a.eval (.tmp t)=c at h1 key
 cases h1 with
 |fz _ _ hf=>cases hf
 |dref _ _ _ _ hd _=>exact absurd hd (nd G)
 |ref0 _ _ ac ag st' ad E hn=>
  refine key [] (λb n u=>by simp at u) (.inl Z) ?_;exact .ref0 K 0 sz [] true ad (by rw[xV,Os Z]) (zAe _)
 |ref _ _ _ ac ag st' b n cap E hb hn hc hs=>
  rw[hk]at E;cases E;refine key [(b,0)] (λb' z u=>by simp at u;obtain⟨rfl,rfl⟩:=u;exact⟨rfl,n,hb⟩) (.inr ⟨b,rfl⟩) ?_;exact .ref K 0 0 sz [] true b 0 cap (by rw[xV,Os Z]) yE (zAe _) hc hs
def Cg (t z K:Nat) {st:Fl} (u:K0=[]) (hv:zL tm t= .ref z 0 0) (hk:zD h z=some (.arr sz xs st)) (A:uG P F m c ⟨[(t,.ref K 0 0)],[(K,.arr sz [] true)]⟩ Q):uG P F m c ⟨tm,h⟩ Q:=
 ⟨λa w H=>A.run a w (H.trunc t z K u hv hk)⟩
end
section
variable {P:Program} {TT:List TI} {K0:List Nat} {F:Fr K0} {m:Nat} {ops:Array Oper} {rest:List Oper} {Q:List FP->St->Prop} {tm:List (Nat×AV)} {h:List (Nat×xM)} {dr:Bool} {fs:List FP}
variable {ty:Nat} {pos:String} {after:Array Edge} {t:Nat}
def Hw (E:qI P TT) {key:Nat} {C:List AV} (u:yW (zL tm) d= .ref key off len) (hk:zD h key=some (.arr sz xs false)) (hx:yW (zL tm) x=xv) (hT:TT[T]? =some ti) (hd:ti.d= .slice e) (G:TT[e]? =some te)
 (B:Oa (zD h) xv=some ys) (A:∀y,ys[0]? =some y->ln y.cells=sz) (z:Nat.beq sz te.size=true) (L:ln ys<=len) (O:xs.take off++ys++xs.drop (off+ln ys)=C) (I:Nat.blt t m=true)
 (M:yP P F m ops dr rest ⟨(t,.s (.int .i64 (ln ys)))::tm,(key,.arr sz C false)::h⟩ (⟨true,[key],key::LI xv⟩::fs) Q):yP P F m ops dr (⟨some t,.call ⟨.builtin .copy, #[d,x], #[T,T]⟩,ty,pos,after,none⟩::rest) ⟨tm,h⟩ fs Q:=by
 subst O;exact qH (nw:=[]) (Sn E u hk hx hT hd G B A z L) I Z Z M
def YZ (z:qI P TT) {i:Int} (hx:yW (zL tm) x= .ref key 0 len) (hk:zD h key=some (.arr sz xs sl)) (hl:yW (zL tm) l= .s (.int k i)) (hT:TT[T]? =some ti) (hd:ti.d= .slice e) (A:TT[e]? =some te)
 (u:Nat.beq sz te.size=true) (h0:0<=i) (h1:i<=len) (B:Nat.blt t m=true) (C:yP P F m ops dr rest ⟨(t,.ref key i.toNat (len-i.toNat))::tm,h⟩ (⟨true,[],[key]⟩::fs) Q):
  yP P F m ops dr (⟨some t,.slice T x (some l) none none,ty,pos,after,none⟩::rest) ⟨tm,h⟩ fs Q:=by
 have:=cU (P:=P) (st:=⟨tm,h⟩) (lo:=some l) (hi:=none) (l:=i.toNat) (r:=len) z hx hk hT hd A ⟨k,i,hl,by omega⟩ rfl (by omega) (zAe _) u;rw[zBu]at this;exact wO this B C
def Te (z:qI P TT) (hx:yW (zL tm) x= .ref key 0 len) (hk:zD h key=some (.arr sz xs sl)) (hl:yW (zL tm) l= .s (.int k 0)) (hT:TT[T]? =some ti) (hd:ti.d= .slice e) (A:TT[e]? =some te)
 (u:Nat.beq sz te.size=true) (B:Nat.blt t m=true) (C:yP P F m ops dr rest ⟨(t,.ref key 0 0)::tm,h⟩ (⟨true,[],[key]⟩::fs) Q):
  yP P F m ops dr (⟨some t,.slice T x none (some l) none,ty,pos,after,none⟩::rest) ⟨tm,h⟩ fs Q:=by
 have:=cU (P:=P) (st:=⟨tm,h⟩) (lo:=none) (hi:=some l) (l:=0) (r:=0) z hx hk hT hd A Z ⟨k,0,hl,by omega⟩ (zAe _) (zAn _) u;exact wO this B C
def tu (V:qI P TT) {I n:Nat} {S:TI} {k0:IntKind} {z:AV} (hs:yW (zL tm) s= .s (.slice none 0 0)) (hx:yW (zL tm) x= .s (.int .i64 nx)) (hT:TT[T]? =some ti) (hd:ti.d= .slice e) (W:TT[e]? =some te) (U:TT[I]? =some S) (C:S.d= .int k0)
 (hb:Nat.ble te.bytes 65536=true) (hp:Nat.ble 1 te.size=true) (R:Nat.beq (ln te.zero) te.size=true) (M:te.zero.all (·.oneCell')=true) (O:Nat.beq (kQ te).cells.length te.size=true) (B:(kQ te).cells=te.zero.map .s) (hz:kQ te=z)
 (G:nx=(n:Int)) (A:1<=n) (u:n<=1073741824) (Y:Nat.blt t m=true) (E:(zD h t).isNone=true)
 (L:te.size=sz) (hk:yP P F m ops dr rest ⟨(t,.ref t 0 n)::tm,(t,.arr sz (pg n z) false)::h⟩ (⟨true,[t,t],[]⟩::fs) Q):yP P F m ops dr (⟨some t,.call ⟨.builtin .append, #[s,x], #[T,I]⟩,ty,pos,after,none⟩::rest) ⟨tm,h⟩ fs Q:=by
 subst L hz;exact qH (nw:=[t]) (Eg V t hs hx hT hd W U C G A u hb hp R M O B) Y (Of E) Z hk
end
