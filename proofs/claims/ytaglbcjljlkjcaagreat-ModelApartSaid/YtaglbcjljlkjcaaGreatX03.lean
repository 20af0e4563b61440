/- Part 3. -/
import Derived.Test.YtaglbcjljlkjcaaGreatProg
import Derived.Test.YtaglbcjljlkjcaaGreatX02
import Derived.RangeFuncIn
import Derived.RangeFuncSeq
import Derived.RangeFuncLeaves
import Derived.Laws.BytesArg
import Derived.Laws.Strings
import Derived.Laws.StructEq
namespace Go.Proofs.YtaglbcjljlkjcaaGreat.Av
set_option linter.all false
set_option maxRecDepth 4000
open List renaming length->ln,replicate->pb,getD->pi
open Inhabited renaming default->dd
variable {a:Act}{asq:Array Operand}{nn sb:Bool}{body c:Code}{Q:Exit->St->Prop}{sl:Fl}{m nx:Int}{k:IntKind}{h0:List (Nat×xV)}{b:List Int}{K0:List Nat}{T e i key len n off sz t ty:Nat}{X:Nat->Prop}{op:Op}{d l s x y:Operand}{P:Program}{st:St}{te ti:TI}{w:World}{β:uP}{h:yT}
abbrev zFN:TI:=⟨.func,1,8,[.nilFunc]⟩
abbrev zPT (n:Nat):TI:=⟨.ptr n,1,8,[.pointer none]⟩
abbrev zSL (n:Nat):TI:=⟨.slice n,1,24,[.slice none 0 0]⟩
abbrev zNL:Value:= .slice none 0 0
abbrev zZI:Value:= .int .i64 0
abbrev zTA:TI:=⟨.str [(0,3),(1,3),(2,3),(3,3),(4,3)],5,40,[zZI,zZI,zZI,zZI,zZI]⟩
abbrev zTB:TI:=⟨.int .u8,1,1,[.int .u8 0]⟩
abbrev zTC:TI:=⟨.other,1,0,[.tuple #[zNL,zZI]]⟩
abbrev zTD:TI:=⟨.str [(0,3),(1,3),(2,3)],3,24,[zZI,zZI,zZI]⟩
abbrev zTE:TI:=⟨.str [(0,3),(1,3)],2,16,[zZI,zZI]⟩
abbrev zTF:TI:=⟨.int .i64,1,8,[zZI]⟩
abbrev zTG:TI:=⟨.string,1,16,[.string ⟨#[]⟩]⟩
abbrev zTH:TI:=⟨.int .u64,1,8,[.int .u64 0]⟩
abbrev zTI:TI:=⟨.int .i32,1,4,[.int .i32 0]⟩
abbrev zTJ:TI:=⟨.str [(0,2),(1,3),(2,4),(3,6)],4,24,[zZI,zZI,.bool false,.int .u8 0]⟩
abbrev zTK:TI:=⟨.str [(0,9),(1,12)],2,24,[.string ⟨#[]⟩,.int .u64 0]⟩
abbrev zTL:TI:=⟨.str [(0,17)],1,8,[.pointer none]⟩
abbrev zTM:TI:=⟨.str [(0,25),(1,26),(2,3),(3,3),(4,3),(5,3)],6,80,[zNL,zNL,zZI,zZI,zZI,zZI]⟩
abbrev zTN:TI:=⟨.str [(0,28),(6,4),(7,3),(8,29),(9,30),(10,31),(11,22),(12,32)],13,216,[zNL,zNL,zZI,zZI,zZI,zZI,.bool false,zZI,zNL,zNL,zNL,zNL,zNL]⟩
abbrev zTO:TI:=⟨.str [(0,34),(13,35)],14,240,[zNL,zNL,zZI,zZI,zZI,zZI,.bool false,zZI,zNL,zNL,zNL,zNL,zNL,zNL]⟩
abbrev zTP:TI:=⟨.str [(0,42),(1,43)],2,48,[zNL,zNL]⟩
abbrev zTQ:TI:=⟨.str [(0,55),(1,3),(2,3),(3,22),(4,3),(5,3),(6,3),(7,3)],8,96,[zNL,zZI,zZI,zNL,zZI,zZI,zZI,zZI]⟩
abbrev zTR:TI:=⟨.str [(0,3),(1,55),(2,22),(3,55)],4,80,[zZI,zNL,zNL,zNL]⟩
abbrev zTS:TI:=⟨.str [(0,62),(1,3),(2,55)],3,40,[zZI,zZI,zNL]⟩
abbrev zTT:TI:=⟨.str [(0,4),(1,58)],2,32,[.bool false,zNL]⟩
abbrev zTU:TI:=⟨.str [(0,3),(1,57),(9,70),(10,71),(11,73)],14,176,[zZI,zNL,zZI,zZI,zNL,zZI,zZI,zZI,zZI,zNL,zNL,zZI,zZI,zZI]⟩
abbrev zTV:TI:=⟨.str [(0,75),(14,76),(15,77),(16,78)],17,248,[zZI,zNL,zZI,zZI,zNL,zZI,zZI,zZI,zZI,zNL,zNL,zZI,zZI,zZI,zNL,zNL,zNL]⟩
abbrev zTW:TI:=⟨.other,1,0,[.tuple #[zZI,zZI]]⟩
abbrev zTX:TI:=⟨.str [(0,4),(1,4),(2,22),(3,22)],4,56,[.bool false,.bool false,zNL,zNL]⟩
abbrev zTY:TI:=⟨.str [(0,88),(1,22),(2,3)],3,56,[zNL,zNL,zZI]⟩
abbrev zTZ:TI:=⟨.str [(0,91),(1,3),(2,22),(3,3)],4,64,[zNL,zZI,zNL,zZI]⟩
abbrev zUA:TI:=⟨.str [(0,93),(4,4)],5,72,[zNL,zZI,zNL,zZI,.bool false]⟩
abbrev zUB:TI:=⟨.str [(0,3),(1,3),(2,22)],3,40,[zZI,zZI,zNL]⟩
abbrev zUC:TI:=⟨.str [(0,22),(1,3)],2,32,[zNL,zZI]⟩
abbrev zUD:TI:=⟨.str [(0,3),(1,3),(2,3),(3,3),(4,55)],5,56,[zZI,zZI,zZI,zZI,zNL]⟩
abbrev zUE:TI:=⟨.str [(0,77),(1,55)],2,48,[zNL,zNL]⟩
abbrev zUF:TI:=⟨.str [(0,3),(1,3),(2,3),(3,3),(4,3),(5,3),(6,3),(7,3)],8,64,[zZI,zZI,zZI,zZI,zZI,zZI,zZI,zZI]⟩
abbrev zUG:TI:=⟨.str [(0,55),(1,4)],2,32,[zNL,.bool false]⟩
abbrev zUH:TI:=⟨.str [(0,4),(1,4),(2,184)],4,40,[.bool false,.bool false,zNL,.bool false]⟩
abbrev zUI:TI:=⟨.str [(0,3),(1,3),(2,62)],3,24,[zZI,zZI,zZI]⟩
abbrev zUJ:TI:=⟨.str [(0,3),(1,3),(2,3),(3,3),(4,227)],5,56,[zZI,zZI,zZI,zZI,zNL]⟩
abbrev zUK:TI:=⟨.str [(0,4),(1,55),(2,3),(3,3),(4,3),(5,3)],6,64,[.bool false,zNL,zZI,zZI,zZI,zZI]⟩
abbrev zUL:TI:=⟨.str [(0,3),(1,3),(2,3),(3,3),(4,3),(5,3)],6,48,[zZI,zZI,zZI,zZI,zZI,zZI]⟩
abbrev zUM:TI:=⟨.str [(0,17),(1,17),(2,17),(3,9)],4,40,[.pointer none,.pointer none,.pointer none,.string ⟨#[]⟩]⟩
abbrev zUN:TI:=⟨.str [(0,393)],0,0,[]⟩
abbrev zUO:TI:=⟨.str [(0,12),(1,12),(2,317),(3,397),(4,5),(5,5),(6,398),(7,399),(8,400),(9,401),(10,402)],11,48,[.int .u64 0,.int .u64 0,.int .u32 0,.int .u8 0,.int .u8 0,.int .u8 0,.int .u8 0,.nilFunc,.pointer none,.int .i32 0,.int .i32 0]⟩
def TT:List TI:=[⟨.other,1,0,[.tuple #[]]⟩,zFN,zTF,zTF,⟨.bool,1,1,[.bool false]⟩,zTB,zTB,zTJ,zTJ,zTG,zTG,zTG,zTH,zTK,zTK,zPT 392,zPT 395,zPT 404,zTL,zTL,⟨.other,1,16,[.nilIface]⟩,zTI,zSL 3,zPT 115,zFN,zSL 90,zSL 57,zTM,zTM,zSL 80,zSL 95,zSL 101,zSL 87,zTN,zTN,zSL 186,zTO,zTO,zFN,zSL 68,zFN,zFN,zSL 43,zSL 60,zTP,zTP,⟨.other,1,0,[.tuple #[.agg #[zNL,zNL,zZI,zZI,zZI,zZI,.bool false,zZI,zNL,zNL,zNL,zNL,zNL],.agg #[zNL,zNL]]]⟩,zFN,zFN,zFN,zFN,zFN,zFN,zFN,zFN,zSL 5,zTQ,zTQ,zSL 66,zTR,zTR,zFN,zTF,zTC,zFN,zTS,zTS,zTT,zTT,zFN,zSL 268,zSL 270,zTD,zTD,zTU,zTU,zSL 229,zSL 55,zSL 4,zTV,zTV,zTW,zFN,zFN,zFN,zFN,zTX,zTX,zSL 169,zTY,zTY,zSL 166,zTZ,zTZ,zUA,zUA,zTH,zFN,zFN,zFN,zUB,zUB,zFN,zFN,zFN,⟨.arr 2 3,2,16,[zZI,zZI]⟩,zSL 105,zFN,zFN,zSL 112,zFN,zTA,zTA,zFN,zUC,zUC,zFN,zFN,zSL 121,zFN,zUD,zUD,zUE,zUE,⟨.other,1,0,[.tuple #[.agg #[zNL,zNL,zZI,zZI,zZI,zZI,.bool false,zZI,zNL,zNL,zNL,zNL,zNL,zNL],.agg #[zNL,zNL],.bool false]]⟩,zFN,zFN,zFN,zSL 42,zSL 204,⟨.other,1,0,[.tuple #[zNL,zNL,zNL]]⟩,zFN,⟨.other,1,0,[.tuple #[.agg #[zNL,zZI,zNL,zZI,.bool false],.bool false]]⟩,zFN,zFN,zPT 34,zFN,zFN,zFN,zTD,zTD,zFN,zFN,zFN,zFN,⟨.other,1,0,[.tuple #[.agg #[zZI,zNL,zZI,zZI,zNL,zZI,zZI,zZI,zZI,zNL,zNL,zZI,zZI,zZI,zNL,zNL,zNL],zNL,zNL,zNL]]⟩,zFN,⟨.other,1,0,[.tuple #[.agg #[zNL,zZI,zNL,zZI,.bool false],.agg #[zZI,zZI,zNL]]]⟩,zFN,zFN,zFN,zFN,zFN,zFN,zFN,zFN,zFN,zFN,zFN,zFN,zFN,zFN,zFN,zFN,zFN,zTE,zTE,zFN,zUF,zUF,zFN,zFN,zFN,zTH,zPT 80,zFN,zFN,zFN,zFN,zFN,zFN,zFN,zFN,zUG,zUG,zUH,zUH,zFN,zFN,⟨.other,1,0,[.tuple #[.agg #[.bool false,.bool false,zNL,.bool false],.agg #[.bool false,zNL]]]⟩,zFN,zFN,zFN,zFN,zFN,zFN,zFN,zFN,zFN,zFN,zFN,zFN,zFN,zUI,zUI,zFN,zFN,zFN,zFN,zFN,
 ⟨.other,1,0,[.tuple #[.agg #[zZI,zNL,zZI,zZI,zNL,zZI,zZI,zZI,zZI,zNL,zNL,zZI,zZI,zZI,zNL,zNL,zNL],.agg #[zZI,zNL,zNL,zNL],.agg #[zZI,zZI,zZI],zZI]]⟩,zFN,zFN,zFN,zFN,zFN,zFN,zFN,zFN,zTA,zTA,zFN,zFN,zFN,zFN,zFN,zFN,zSL 231,zUJ,zUJ,zTA,zTA,zFN,zFN,zFN,zFN,zFN,zFN,zFN,zFN,zFN,⟨.other,1,0,[.tuple #[.agg #[zNL,.bool false],.bool false]]⟩,zFN,⟨.other,1,0,[.tuple #[.agg #[zNL,.bool false],zNL]]⟩,zFN,zFN,zFN,zFN,zFN,zFN,zFN,zFN,zFN,zFN,zFN,⟨.other,1,0,[.tuple #[.agg #[zZI,zNL,zNL,zNL],zZI]]⟩,zFN,⟨.other,1,0,[.tuple #[.agg #[zZI,zNL,zZI,zZI,zNL,zZI,zZI,zZI,zZI,zNL,zNL,zZI,zZI,zZI],zZI,zZI]]⟩,zFN,⟨.other,1,0,[.tuple #[.agg #[zZI,zNL,zZI,zZI,zNL,zZI,zZI,zZI,zZI,zNL,zNL,zZI,zZI,zZI,zNL,zNL,zNL],.agg #[zZI,zNL,zNL,zNL],zZI,zZI]]⟩,zFN,zFN,zFN,zFN,zFN,zFN,zFN,zUK,zUK,zTE,zTE,zFN,zFN,zFN,zFN,zFN,zPT 93,zFN,⟨.other,1,0,[.tuple #[.agg #[zZI,zZI,zNL],zZI,.bool false]]⟩,zFN,zFN,zFN,zFN,zFN,zFN,zFN,zUL,zUL,⟨.other,1,0,[.tuple #[.agg #[zZI,zZI,zZI,zZI,zZI,zZI],.bool false]]⟩,zFN,⟨.other,1,0,[.tuple #[zZI,.bool false]]⟩,zFN,zFN,⟨.other,1,0,[.tuple #[zNL,zNL,.bool false]]⟩,zFN,zTW,zFN,⟨.other,1,0,[.tuple #[.agg #[zZI,zZI,zZI],.bool false]]⟩,zFN,⟨.other,1,0,[.tuple #[.agg #[zZI,zNL,zZI,zZI,zNL,zZI,zZI,zZI,zZI,zNL,zNL,zZI,zZI,zZI,zNL,zNL,zNL],.agg #[zZI,zNL,zNL,zNL],zZI]]⟩,zFN,⟨.other,1,0,[.tuple #[.agg #[zZI,zNL,zZI,zZI,zNL,zZI,zZI,zZI,zZI,zNL,zNL,zZI,zZI,zZI,zNL,zNL,zNL],zZI]]⟩,zFN,zFN,zTC,zFN,zFN,zFN,zFN,zFN,zFN,zFN,zFN,zFN,zFN,zFN,zFN,⟨.int .u32,1,4,[.int .u32 0]⟩,zFN,zFN,zFN,zFN,zFN,zFN,zFN,zFN,zFN,zFN,zFN,zFN,zFN,⟨.other,1,0,[.tuple #[zZI,zZI,zZI]]⟩,zFN,
 ⟨.other,1,0,[.tuple #[.agg #[zZI,zNL,zZI,zZI,zNL,zZI,zZI,zZI,zZI,zNL,zNL,zZI,zZI,zZI],.agg #[zZI,zNL,zNL,zNL],.bool false,zZI]]⟩,zFN,⟨.other,1,0,[.tuple #[.agg #[zZI,zZI],.bool false]]⟩,zFN,⟨.other,1,0,[.tuple #[.agg #[zZI,zZI,zZI,zZI,zZI],zZI]]⟩,zFN,zFN,zFN,zFN,zFN,⟨.arr 5 3,5,40,[zZI,zZI,zZI,zZI,zZI]⟩,zFN,zFN,zFN,zFN,zFN,zFN,zFN,zFN,zFN,zFN,zFN,zFN,⟨.other,1,0,[.tuple #[zNL,zZI,zZI]]⟩,zFN,zTC,zFN,zTC,zFN,zFN,zFN,⟨.other,1,0,[.tuple #[.agg #[zZI,zZI,zZI,zZI,zNL],.bool false]]⟩,zFN,zFN,zFN,zPT 75,zFN,zFN,zFN,zFN,zFN,zFN,zFN,zFN,zFN,zFN,zFN,zFN,zFN,zFN,zFN,zFN,zFN,zSL 71,zFN,zFN,zFN,zFN,zUM,zUM,⟨.arr 0 16,0,0,[]⟩,zUN,zUN,zFN,zTB,zTB,zFN,zPT 5,zTI,zTI,zUO,zUO,⟨.other,1,8,[.pointer none]⟩]
def tok:uW Tryz.prog TT:=Ic gY
def Y2 (v:AV) (k:AV->Prop):Prop:=match v with
 | .s v=>k (.s v)
 | .ptr j i o=>k (.ptr j i o)
 | .agg cs=>k (.agg cs)
 | .sl b xs=>k (.sl b xs)
 | .slc b xs=>k (.slc b xs)
 | .ref j o n=>k (.ref j o n)
 | .fp xs i o=>k (.fp xs i o)
 | .fn f cs=>k (.fn f cs)
 | .tup vs=>k (.tup vs)
 | .bot=>k .bot
 | .gh n=>k (.gh n)
 | .fm o p=>k (.fm o p)
def pf (v:AV) (k:AV->Prop):Y2 v k=k v:=by cases v<;>rfl
def BH:List AV->(List AV->Prop)->Prop
 | [],k=>k []
 |x::r,k=>Y2 x λx=>BH r λr=>k (x::r)
theorem NY:∀(l:List AV) (k:List AV->Prop),BH l k=k l
 | [],_=>rfl
 |x::r,k=>by rw[BH,pf,NY r]
def jY (K:List Nat) (h:yT) (u:List (Nat×AV)):List Nat->(List (Nat×AV)->Prop)->Prop
 | [],k=>k []
 |t::z,k=>Y2 (wY K h (zK u t)) λv=>jY K h u z λr=>k ((t,v)::r)
theorem dU (K:List Nat) (h:yT) (z:List (Nat×AV)):∀(u:List Nat) (k:List (Nat×AV)->Prop),jY K h z u k=k (u.map λt=>(t,wY K h (zK z t)))
 | [],_=>rfl
 |t::u,k=>by rw[jY,pf,dU K h z u];rfl
def jR (K:List Nat) (h:yT):List Nat->(List (Nat×xV)->Prop)->Prop
 | [],k=>k []
 |j::Ks,k=>match h j with
  |none=>jR K h Ks k
  |some (.box cs)=>BH (kQ K h cs) λcs=>jR K h Ks λr=>k ((j,.box cs)::r)
  |some (.arr sz xs st)=>bif st.nest then BH (kQ K h xs) λxs=>(bif vK xs then jR K h Ks λr=>k ((j,.arr sz xs ⟨st.stale,false⟩)::r)else jR K h Ks λr=>k ((j,.arr sz xs ⟨st.stale,true⟩)::r))else jR K h Ks λr=>k ((j,.arr sz xs st)::r)
  |some .dead=>jR K h Ks λr=>k ((j,.dead)::r)
  |some (.obj o)=>jR K h Ks λr=>k ((j,.obj o)::r)
theorem kP (K:List Nat) (h:yT):∀(Ks:List Nat) (k:List (Nat×xV)->Prop),jR K h Ks k=k (Ks.filterMap λj=>(h j).map λe=>(j,kD K h e))
 | [],_=>rfl
 | j ::Ks,k=>by
  rw[jR,List.filterMap_cons]
  cases h j with
  |none=>exact kP K h Ks k
  | some e=>
   cases e with
   |box cs=>dsimp only[Option.map_some];rw[NY,kP K h Ks];rfl
   |obj cs=>dsimp only[Option.map_some];rw[kP K h Ks];rfl
   | arr sz xs st=>
    dsimp only[Option.map_some]
    cases u:st.nest with
    |false=>
     have e:kD K h (.arr sz xs st)= .arr sz xs st:=by simp only[kD,u,zC7]
     rw[e];simp only[zC7];rw[kP K h Ks]
    |true=>
     have e:kD K h (.arr sz xs st)= .arr sz (kQ K h xs) ⟨st.stale,!vK (kQ K h xs)⟩:=by simp only[kD,u,zCm]
     rw[e];simp only[zCm];rw[NY]
     cases hk:vK (kQ K h xs)with
     |true=>simp only[zCm,zGf];rw[kP K h Ks]
     |false=>simp only[zC7,zE4];rw[kP K h Ks]
   |dead=>dsimp only[Option.map_some];rw[kP K h Ks];rfl
section
variable {P:Program} {K0:List Nat} {F:Fr K0} {m:Nat} {Q:Exit->St->Prop} {st:St} {c:Code}
def cB (Q:Exit->St->Prop) (I:St->Prop):Exit->St->Prop
 | .normal,s=>I s
 |e,s=>Q e s
theorem yU (N:Nat) (K Ks B u:List Nat) (C:K0.all (K.contains ·)=true) (I:Nat->List (Nat×AV)->List (Nat×xV)->St->Prop)
  (h:jY K (zD st.h) st.tm B λT=>jR K (zD st.h) Ks λU=>I 0 T U (restr K u st)/\(∀i s,i<N->I i T U s->uG P F m c s (cB Q λs=>I (i+1) T U (restr K u s)))/\
   ∀s,I N T U s->uG P F m c s (cB Q λ_=>False)):uG P F m (.loop c) st Q:=by
 rw[dU,kP]at h;generalize (B.map _)=T at h;generalize (Ks.filterMap _)=U at h;obtain⟨h0,h1,h2⟩:=h;refine wS (λn s=>∃i,n+i=N/\I i T U s) N K u C ⟨0,rfl,h0⟩ λn s ⟨i,hi,hs⟩=>?_
 by_cases z:i<N
 .refine(h1 i s z hs).mono λe E A=>?_
  cases e with
  |normal=>exact⟨n-1,by omega,i+1,by omega,A⟩
  |_=>exact A
 .obtain rfl:i=N:=by omega
  refine(h2 s hs).mono λe E A=>?_
  grind [jY,zD,jR,restr,cB]
theorem zN (N:Nat) (K Ks z u:List Nat) (A:K0.all (K.contains ·)=true) (S:Nat->List (Nat×AV)->List (Nat×xV)->St)
  (h:jY K (zD st.h) st.tm z λT=>jR K (zD st.h) Ks λU=>restr K u st=S 0 T U/\(∀i,i<N->uG P F m c (S i T U) (cB Q λs=>restr K u s=S (i+1) T U))/\
   uG P F m c (S N T U) (cB Q λ_=>False)):uG P F m (.loop c) st Q:=by
 refine yU N K Ks z u A (λi T U s=>s=S i T U) ?_
 grind
theorem gE (N:Nat) (K Ks A u:List Nat) (B:K0.all (K.contains ·)=true) (I:Nat->List (Nat×AV)->List (Nat×xV)->St->Prop)
  (h:jY K (zD st.h) st.tm A λT=>jR K (zD st.h) Ks λU=>I N T U (restr K u st)/\∀n s,I n T U s->uG P F m c s (cB Q λs=>∃z,z<n/\I z T U (restr K u s))):uG P F m (.loop c) st Q:=by
 rw[dU,kP]at h;generalize (A.map _)=T at h;generalize (Ks.filterMap _)=U at h;obtain⟨h0,h1⟩:=h;refine wS (λn s=>I n T U s) N K u B h0 λn s C=>(h1 n s C).mono λe G E=>?_
 grind [jY,zD,jR,restr,cB]
theorem zU {α:Type} (l:List α) (K Ks z u:List Nat) (A:K0.all (K.contains ·)=true) (S:Nat->List α->List (Nat×AV)->List (Nat×xV)->St)
  (h:jY K (zD st.h) st.tm z λT=>jR K (zD st.h) Ks λU=>restr K u st=S 0 [] T U/\
   (∀i f4 x post,l=f4++x::post->ln f4=i->uG P F m c (S i f4 T U) (cB Q λs=>restr K u s=S (i+1) (f4++[x]) T U))/\
   uG P F m c (S (ln l) l T U) (cB Q λ_=>False)):uG P F m (.loop c) st Q:=by
 refine zN (ln l) K Ks z u A (λi T U=>S i (l.take i) T U) ?_;rw[dU,kP]at h⊢
 grind [jY,zD,jR,restr,cB,List.drop_eq_getElem_cons,List.take_append_drop,List.take_append_getElem]
theorem uZ {α:Type} (l:List α) (K Ks z u:List Nat) (A:K0.all (K.contains ·)=true) (I:Nat->List α->List (Nat×AV)->List (Nat×xV)->St->Prop)
  (h:jY K (zD st.h) st.tm z λT=>jR K (zD st.h) Ks λU=>I 0 [] T U (restr K u st)/\
   (∀i f4 x post s,l=f4++x::post->ln f4=i->I i f4 T U s->uG P F m c s (cB Q λs=>I (i+1) (f4++[x]) T U (restr K u s)))/\
   ∀s,I (ln l) l T U s->uG P F m c s (cB Q λ_=>False)):uG P F m (.loop c) st Q:=by
 refine yU (ln l) K Ks z u A (λi T U s=>I i (l.take i) T U s) ?_;rw[dU,kP]at h⊢
 grind [jY,zD,jR,restr,cB,List.drop_eq_getElem_cons,List.take_append_drop,List.take_append_getElem]
end
section
variable {α:Type} {l f4 post:List α} {x:α} {i:Nat}
def zW (h:l=f4++x::post) (hi:ln f4=i):i<ln l:=by subst h;simp;omega
def yG {β:Type} (f:α->β) (h:l=f4++x::post) (hi:ln f4=i):(l.map f)[i]? =some (f x):=by subst h;subst hi;simp
def yY (h:l=f4++x::post):x∈l:=by subst h;simp
def zA {β:Type} (f:α->β) (l:List α):(l.map f).length=ln l:=by simp
def yM (f:α->AV) (l:List α) (h:∀x,(f x).cells.length=n):∀y,(l.map f)[0]? =some y->ln y.cells=n:=λy u=>by
 rw[zBe,zBp]at u;obtain⟨x,_,rfl⟩:=u;exact h x
end
def W2 (TT:List TI) (z:List (Nat×AV)):Op->Option (List AV)
 | .buildSlice T len u=>match TT[T]? with
  | some ti=>match ti.d with
   | .slice e=>match TT[e]? with
    |some te=>bif cU 0 (u.toList.map (·.1))&&(Nat.beq (ln u.toList) len&&(Nat.ble 1 te.size&&(Nat.ble (len*te.size) 65536&&Nat.beq (ln te.zero) te.size)))then
     QY (u.toList.map λp=>yX (zK z) p.2) λxs=>bif xs.all (λx=>Nat.beq (ln x.cells) te.size&&(x.ok&&x.nokey))then some xs else none else none
    |none=>none
   |_=>none
  |none=>none
 |_=>none
section
variable {P:Program} {TT:List TI} (hP:uW P TT) {tm:List (Nat×AV)} {h:List (Nat×xV)}
include hP in
def Rc {xs:List AV} (u:W2 TT tm op=some xs):vA P ⟨tm,h⟩ op (.sl true xs) [] [] []:=by
 unfold W2 at u;split at u
 .rename_i T len A;split at u
  .rename_i ti hT;split at u
   .rename_i e hd;split at u
    .rename_i te B;rw[gX]at u
     cases hc:(cU 0 (A.toList.map (·.1))&&(Nat.beq (ln A.toList) len&&(Nat.ble 1 te.size&&(Nat.ble (len*te.size) 65536&&Nat.beq (ln te.zero) te.size))))with
     |false=>rw[hc]at u;cases u
     | true=>
      rw[hc]at u;simp only[zCm]at u;generalize z:(A.toList.map λp=>yX (zK tm) p.2)=ys at u
      cases C:ys.all (λx=>Nat.beq (ln x.cells) te.size&&(x.ok&&x.nokey))with
      |false=>simp[C]at u
      | true=>
       simp only[C,zCm,zCu]at u;subst u;simp only[zBg]at hc;obtain⟨E,G,I,L,M⟩:=hc;refine PD hP hT hd B I ?_ (by rw[<-z];simpa using G) C L M;rw[<-z];apply zCf;intro j;simp only[bW,zBe,zFb,zCn]
       cases hj:A.toList[j]? with
       |none=>simp
       |some p=>
        have:=VI _ 0 E j p.1 (by simp[hj]);simp[this]
    .cases u
   .cases u
  .cases u
 .cases u
end
theorem vA.wkS {xs:List AV} {d:List (Nat×xV)} {r nw:List Nat} (C:vA P st op (.sl true xs) d r nw):vA P st op (.sl false xs) d r nw:=
 ⟨λX E h h1 h2 A o a w β B u z=>by
  have:=C.run X E h h1 h2 A o a w β B u z;unfold aP at this⊢;split at this
  .obtain⟨β',G,hv⟩:=this;exact⟨β',G,hv.wk⟩
  .obtain⟨β',G,hv⟩:=this;exact⟨β',G,hv.wk⟩
  .exact this.mono λe w' ⟨c,he,β',G,hv⟩=>⟨c,he,β',G,hv.wk⟩
  .exact this.elim⟩
def vu (y:AV) (off:Nat) (cs:List AV):Option AV:=match y with
 | .agg u=>QY (TB u off cs) λl=>some (.agg l)
 |_=>match cs with
  | [v]=>Xj v some
  |_=>none
theorem uu {y:AV} {cs:List AV} {v:AV} (h:vu y off cs=some v):FM y off cs=v:=by
 unfold vu at h
 grind [vu,FM,gX,Option.some.inj,ZT]
section
variable {P:Program} {TT:List TI} {K0:List Nat} {F:Fr K0} {m:Nat} {ops:Array Oper} {rest:List Oper} {Q:List FP->St->Prop} {tm:List (Nat×AV)} {h:List (Nat×xV)} {dr:Bool} {fs:List FP}
variable {ty:Nat} {pos:String} {after:Array Edge} {t:Nat}
def yI {u:Array (Nat×Operand)} (hk:yP P F m ops dr (⟨some t,.buildSlice T len u,ty,pos,after,none⟩::rest) st fs Q):yP P F m ops dr (⟨some t,.buildSlice T len u,ty,pos,after,none⟩::rest) st fs Q:=hk
def fN (hk:yP P F m ops dr (⟨some t,.makeSlice T x y,ty,pos,after,none⟩::rest) st fs Q):yP P F m ops dr (⟨some t,.makeSlice T x y,ty,pos,after,none⟩::rest) st fs Q:=hk
def am (hk:yP P F m ops dr (⟨some t,.nilCheck x,ty,pos,after,none⟩::rest) st fs Q):yP P F m ops dr (⟨some t,.nilCheck x,ty,pos,after,none⟩::rest) st fs Q:=hk
def nf {x:Nat} {u:Array Nat} (hk:yP P F m ops dr (⟨some t,.call ⟨.value (.tmp x),asq,u⟩,ty,pos,after,none⟩::rest) st fs Q):yP P F m ops dr (⟨some t,.call ⟨.value (.tmp x),asq,u⟩,ty,pos,after,none⟩::rest) st fs Q:=hk
def vD (u:uW P TT) {xs:List AV} (z:W2 TT tm op=some xs) (A:Nat.blt t m=true) (hk:yP P F m ops dr rest ⟨(t,.sl false xs)::tm,h⟩ (⟨true,[],[]⟩::fs) Q):
 yP P F m ops dr (⟨some t,op,ty,pos,after,none⟩::rest) ⟨tm,h⟩ fs Q:=wJ (Rc u z).wkS A hk
def kX (B:uW P TT) {A:AV} {ys:List AV} (L:yX (zK tm) s= .s (.slice none 0 0)) (M:yX (zK tm) x=A) (hT:TT[T]? =some ti) (hd:ti.d= .slice e) (C:TT[e]? =some te)
 (z:AI (zD h) A=some ys) (u:∀y,ys[0]? =some y->ln y.cells=te.size) (I:Nat.ble 1 te.size=true) (hb:Nat.ble te.bytes 65536=true) (O:Nat.beq (ln te.zero) te.size=true) (G:ln ys<=1073741824) (E:Nat.blt t m=true)
 (hk:yP P F m ops dr rest ⟨(t,.sl false ys)::tm,h⟩ (⟨true,[],OE A⟩::fs) Q):yP P F m ops dr (⟨some t,.call ⟨.builtin .append, #[s,x], #[T,T]⟩,ty,pos,after,none⟩::rest) ⟨tm,h⟩ fs Q:=
 wJ (PA B L M hT hd C z u I hb O G) E hk
def xE (kn:Nat) (G:uW P TT) {E:AV} {ys:List AV} (R:yX (zK tm) s= .s (.slice none 0 0)) (S:yX (zK tm) x=E) (hT:TT[T]? =some ti) (hd:ti.d= .slice e) (I:TT[e]? =some te)
 (B:AI (zD h) E=some ys) (A:∀y,ys[0]? =some y->ln y.cells=te.size) (O:Nat.ble 1 te.size=true) (hb:Nat.ble te.bytes 65536=true) (U:Nat.beq (ln te.zero) te.size=true) (M:ln ys<=1073741824) (L:Nat.blt t m=true) (u:(zD h kn).isNone=true)
 (z:te.size=sz) (hk:yP P F m ops dr rest ⟨(t,.ref kn 0 (ln ys))::tm,(kn,.arr sz ys false)::h⟩ (⟨true,[kn,kn],OE E⟩::fs) Q) (C:te.zero.all (·.oneCell')=true:=by rfl):yP P F m ops dr (⟨some t,.call ⟨.builtin .append, #[s,x], #[T,T]⟩,ty,pos,after,none⟩::rest) ⟨tm,h⟩ fs Q:=by
 subst z;exact qA (nw:=[kn]) (ZX G kn R S hT hd I B A O hb U C M) L (Gc u) Z hk
def vC (E:uW P TT) {k:Nat} {C:AV} {ys:List AV} (O:yX (zK tm) s= .ref k 0 0) (hk:zD h k=some (.arr sz [] ⟨sb,false⟩)) (R:yX (zK tm) x=C) (hT:TT[T]? =some ti) (hd:ti.d= .slice e) (G:TT[e]? =some te)
 (A:AI (zD h) C=some ys) (z:∀y,ys[0]? =some y->ln y.cells=sz) (u:Nat.beq sz te.size=true) (hb:Nat.ble te.bytes 65536=true) (S:Nat.beq (ln te.zero) te.size=true) (L:ln ys<=1073741824) (I:Nat.blt t m=true)
 (M:yP P F m ops dr rest ⟨(t,.ref k 0 (ln ys))::tm,(k,.arr sz ys false)::h⟩ (⟨true,[k],k::OE C⟩::fs) Q) (B:te.zero.all (·.oneCell')=true:=by rfl):yP P F m ops dr (⟨some t,.call ⟨.builtin .append, #[s,x], #[T,T]⟩,ty,pos,after,none⟩::rest) ⟨tm,h⟩ fs Q:=
 qA (nw:=[]) (wU (xs:=[]) false false E O hk R hT hd G (λ_=>rfl) A z u hb S B (by simpa using L) (λ_=>rfl)) I Z Z M
def xZ (E:uW P TT) {k:Nat} {C:AV} {ys:List AV} (O:yX (zK tm) s= .ref k 0 0) (hk:zD h k=some (.arr sz [] sl)) (R:yX (zK tm) x=C) (hT:TT[T]? =some ti) (hd:ti.d= .slice e) (G:TT[e]? =some te)
 (A:TH true (zD h) C=some ys) (z:∀y,ys[0]? =some y->ln y.cells=sz) (u:Nat.beq sz te.size=true) (hb:Nat.ble te.bytes 65536=true) (S:Nat.beq (ln te.zero) te.size=true) (L:ln ys<=1073741824) (I:Nat.blt t m=true)
 (M:yP P F m ops dr rest ⟨(t,.ref k 0 (ln ys))::tm,(k,.arr sz ys ⟨false,true⟩)::h⟩ (⟨true,[k],k::OE C⟩::fs) Q) (B:te.zero.all (·.oneCell')=true:=by rfl):yP P F m ops dr (⟨some t,.call ⟨.builtin .append, #[s,x], #[T,T]⟩,ty,pos,after,none⟩::rest) ⟨tm,h⟩ fs Q:=
 qA (nw:=[]) (wU (xs:=[]) false true E O hk R hT hd G (λh=>by cases h) A z u hb S B (by simpa using L) (λ_=>rfl)) I Z Z M
def Qc (I:uW P TT) {p:Operand} {k:Nat} {xs:List AV} {y v A:AV} {u:Bool} (M:yX (zK tm) p= .ptr k i off) (R:yX (zK tm) x=v) (hk:zD h k=some (.arr sz xs ⟨false,u⟩)) (S:xs[i]? =some y) (hT:TT[T]? =some ti)
 (h1:v.ok=true) (h2:Nat.beq (ln v.cells) ti.size=true) (B:Nat.ble (off+ti.size) (ln y.cells)=true) (C:(u||v.nokey)=true) (E:Nat.ble 1 ti.size=true) (G:v.cells.all (λv=>!v.isAgg)=true) (L:vu y off v.cells=some A)
 (O:yP P F m ops dr rest ⟨tm,(k,.arr sz (xs.set i A) ⟨false,u⟩)::h⟩ (⟨true,[k],[k]⟩::fs) Q):yP P F m ops dr (⟨none,.store T p x,ty,pos,after,none⟩::rest) ⟨tm,h⟩ fs Q:=by
 have z:=WE (st:=⟨tm,h⟩) I M R hk S hT h1 h2 B C E G;rw[uu L]at z;exact x_s (nw:=[]) z Z Z O
theorem pm (I:uW P TT) {p:Operand} {k:Nat} {xs z cs:List AV} {u:Bool} (L:yX (zK tm) p= .ptr k i 0) (O:yX (zK tm) x= .agg cs) (hk:zD h k=some (.arr sz xs ⟨false,u⟩)) (R:xs[i]? =some (.agg z)) (hT:TT[T]? =some ti)
 (h2:Nat.beq (ln cs) ti.size=true) (B:Nat.beq ti.size (ln z)=true) (C:(u||(AV.agg cs).nokey)=true) (E:Nat.ble 1 ti.size=true) (G:cs.all (λv=>!v.isAgg)=true)
 (M:yP P F m ops dr rest ⟨tm,(k,.arr sz (xs.set i (.agg cs)) ⟨false,u⟩)::h⟩ (⟨true,[k],[k]⟩::fs) Q):yP P F m ops dr (⟨none,.store T p x,ty,pos,after,none⟩::rest) ⟨tm,h⟩ fs Q:=by
 have S:=zBz h2;have e3:=zBz B;have A:=WE (st:=⟨tm,h⟩) I L O hk R hT Z (by simpa [AV.cells]using h2) (zEn (by simp[AV.cells];omega)) C E G
 have:FM (.agg z) 0 (AV.agg cs).cells= .agg cs:=by
  unfold FM AV.cells;dsimp only
  congr 1
  apply zCf;intro j;rw[XB _ _ _ _ (by omega)]
  grind
 rw[this]at A;exact x_s (nw:=[]) A Z Z M
theorem wL.nsplit (H:wL F m ⟨tm,h⟩ a w) {t:Nat} {xs:List AV} (hv:zK tm t= .sl false xs):(∃cap,xs=[]/\wL F m ⟨(t,.s (.slice none 0 cap))::tm,h⟩ a w)\/wL F m ⟨(t,.sl true xs)::tm,h⟩ a w:=by
 obtain⟨⟨X,β,E,z,A,B,M,C⟩,L,gs,hl⟩:=H
 have key:∀v,(∀i,v≠ .gh i)->yK w (xT X β) (zD h) β v (a.eval (.tmp t))->wL F m ⟨(t,v)::tm,h⟩ a w:=λv O hv=>by
  refine⟨⟨X,β,E,z,λj=>?_,B,λi hi=>?_,C⟩,L,gs,hl⟩
  all_goals grind [wL,zK,xF]
 have h0:=A t;dsimp only at h0;rw[hv]at h0;generalize hc:a.eval (.tmp t)=c at*
 cases h0 with
 | fz _ _ G=>
  cases G with
  |nil b cap=>
   cases b with
   |none=>exact .inl ⟨cap,rfl,key _ (λ_ h=>by cases h) (.fz _ _ (.s _))⟩
   |some b=>exact .inr (key _ (λ_ h=>by cases h) (.fz _ _ (.nil1 b cap)))
  |sl _ _ b o sz cap f I hL u hh=>exact .inr (key _ (λ_ h=>by cases h) (.fz _ _ (.sl true _ b o sz cap f I hL u hh)))
def xI {Q:Exit->St->Prop} (t:Nat) {xs:List AV} (hv:zK tm t= .sl false xs) (h1:∀cap,xs=[]->uG P F m c ⟨(t,.s (.slice none 0 cap))::tm,h⟩ Q) (h2:uG P F m c ⟨(t,.sl true xs)::tm,h⟩ Q):uG P F m c ⟨tm,h⟩ Q:=
 ⟨λa w H=>by
  rcases H.nsplit hv with⟨cap,A,u⟩|z
  .exact(h1 cap A).run a w u
  .exact h2.run a w z⟩
end
section
variable {P:Program} {K0:List Nat} {F:Fr K0} {m:Nat} {tm:List (Nat×AV)} {h:List (Nat×xV)}
def Pc {h:yT} (H:jM X h β w) {K:Nat} (C:h K=none) (G:1<=sz):xU X w h β w (over [(K,.arr sz [] false)] h) (bH β K []):=
 xU.step H K _ _ (zBb _) (λ_ _ _=>rfl) Z Z Z (λb n u=>by simp at u) (λ_ _ _=>rfl) (λe A=>by rw[C]at A;cases A) (λE=>⟨G,by simp,λh=>absurd Z h,λi y z=>by simp at z,
  λb n r B=>by rw[yL]at B;simp at B,λ_ _=>undef,λi y j v z _=>by simp at z,λi j hi _=>by simp at hi,λb n u=>by rw[yL]at u;simp at u⟩)
theorem wL.virtF (H:wL F m ⟨tm,h⟩ a w) (t K sz:Nat) {cap:Nat} (hv:zK tm t= .s (.slice none 0 0)) (I:(zD h K).isNone=true) (M:Nat.ble 1 sz=true):wL F m ⟨(t,.ref K 0 0)::tm,(K,.arr sz [] false)::h⟩ a w:=by
 obtain⟨⟨X,β,L,z,A,B,E,C⟩,O,gs,hl⟩:=H;have hk:zD h K=none:=by simpa using I
 have G:=Pc z hk (zBo M);have u:∀k,over [(K,.arr sz [] false)] (zD h) k≠some .dead:=eV Z O
 have R:VC F m (zK ((t,.ref K 0 0)::tm)) (over [(K,.arr sz [] false)] (zD h)) a w:=by
  refine⟨⟨X,_,L,G.hok,λj=>?_,B.goes G u (G.lives z u),λi hi=>?_,C.goes z G⟩,u,gs,hl⟩
  .rw[xF];split
   .rename_i hj;subst hj;have:=A j;rw[hv]at this;rw[this.s_inv];exact .ref0 K 0 sz [] false none (qV _ _ _) (zBb _)
   .exact(A j).evo G.evo
  .rw[xF]at hi;split at hi
   .cases hi
   .exact F.go G (E i hi)
 unfold wL;dsimp only;rw[show zD ((K,.arr sz [] false)::h)=over [(K,.arr sz [] false)] (zD h)from vF [(K,.arr sz [] false)] h];exact R
def qH (t K sz:Nat) (hv:zK tm t= .s (.slice none 0 0)) (u:(zD h K).isNone=true) (z:Nat.ble 1 sz=true) (hk:uG P F m c ⟨(t,.ref K 0 0)::tm,(K,.arr sz [] false)::h⟩ Q):uG P F m c ⟨tm,h⟩ Q:=
 ⟨λa w H=>hk.run a w (H.virtF (cap:=0) t K sz hv u z)⟩
end
structure aZ (X X':Nat->Prop) (W W':World):Prop where
 size:W.heap.size<=W'.heap.size
 fz:∀b,b<W.heap.size->¬X b->W'.heap[b]? =W.heap[b]? /\¬X' b
 sup:∀b,X b->X' b
 lt:∀b,X' b->b<W'.heap.size
 os:W'.os=W.os
 tape:W'.tape=W.tape
 output:W'.output=W.output
def H9 (P:Program) (F:Fr K0) (l:Nat) (xs:List (List AV)):Prop:=
 ∀(i:Nat) (ys:List AV) (X O:Nat->Prop) (W:World) (cs:Array Value),xs[i]? =some ys->F.J i O X W->cs.size=ln ys->(∀(j:Nat) v,ys[j]? =some v->xM W (λb=>X b\/O b) v (cs.getD j undef))->
  YieldAt Fence.wide 0 P l cs W λe u=>(e= .returned (.bool true)/\∃X',aZ X X' W u/\F.J (i+1) O X' u)\/(e= .returned (.bool false)/\∃X',aZ X X' W u/\F.J (ln xs+1+i) O X' u)
section
variable {X X':Nat->Prop} {W W':World} {h:yT} {β:uP}
theorem aZ.evo (H:jM X h β W) (q:aZ X X' W W'):EZ W (xT X β) h β W' (xT X' β) h β:=
 ⟨q.size,λb hb hd=>⟨(q.fz b hb λu=>hd (.inl u)).1,λh'=>h'.elim (q.fz b hb λu=>hd (.inl u)).2 λA=>hd (.inr A)⟩,λk b n z=>by
  unfold wO World.shape?
  rw[(q.fz b (H.lt b (.inr ⟨k,n,z⟩)) (H.free k b n z)).1],jB h β⟩
theorem aZ.hok (H:jM X h β W) (q:aZ X X' W W'):jM X' h β W':=
 ⟨λk e z=>(H.ent k e z).evo (q.evo H) Z λb n u=>(q.fz b (H.lt b (.inr ⟨k,n,u⟩)) (H.free k b n u)).1,H.off,H.disj,λk b n u=>(q.fz b (H.lt b (.inr ⟨k,n,u⟩)) (H.free k b n u)).2,
  λb hd=>hd.elim (q.lt b) λA=>zCb (H.lt b (.inr A)) q.size⟩
end
section
variable {P:Program} {K0:List Nat} {F:Fr K0} {m:Nat} {ops:Array Oper} {rest:List Oper} {tm:List (Nat×AV)} {h:List (Nat×xV)}
theorem VC.quiet {X':Nat->Prop} {hh:yT} {t:Nat->AV} {W A:World} {j:Nat} (G:F.it=true) (S:∀b,F.X b->F.V b) (B:Q6 F X) (H:jM X hh β W) (O:∀s,yK W (xT X β) hh β (t s) (a.eval (.tmp s))) (u:fF F hh β W) (R:P2 X F a.defers W) (nd:∀k,hh k≠some .dead) (gs:m<=GS) (hl:a.tmps.size=m)
 (q:aZ X X' W A) (hj:F.J j (Mh β) X' A) (d:Nat) (hd:d<m) (b:Bool):VC F m (λs=>if s=GS then .gh j else if s=d then .s (.bool b)else t s) hh (a.put (some d) (.bool b)) A:=by
 have E:=q.evo H;refine⟨⟨X',β,⟨λc hc=>q.sup c (B.1 c hc),λc hc=>?_⟩,q.hok H,λs=>?_,?_,λi hi=>?_,?_⟩,nd,gs,by simp[Act.put,hl]⟩
 .by_cases hb:c<W.heap.size
  .by_cases z:X c
   .exact B.2 c z
   .exact absurd hc (q.fz c hb z).2
  .exact .inr (zCa u.size (Nat.le_of_not_lt hb))
 .split
  .exact .fz _ _ (.gh _ _)
  .split
   .rename_i L;subst L;have:s<a.tmps.size:=by rw[hl];exact hd
    have e:(a.put (some s) (.bool b)).eval (.tmp s)= .bool b:=by simp[Act.put,Act.eval,this]
    rw[e];exact .fz _ _ (.s _)
   .rename_i L;rw[Act.eval_put (λd' C e=>L (by cases C;injection e with e))];exact(O s).evo E
 .exact⟨u.knd,zCa u.size q.size,λc hc hi U=>by
   have h1:¬X c:=λY=>(B.2 c Y).elim (λh=>hi (S c h)) λh=>by omega
   rw[(q.fz c (zCb hc u.size) h1).1]
   exact u.keep c hc hi U,u.own,u.pas,λk c n M=>by
   obtain⟨n',_,I⟩:=u.pas k c n M
   rw[E.bs k c n' I,u.bs k c n M],q.os.trans u.os,q.tape.trans u.tape,q.output.trans u.output⟩
 .grind
 .obtain⟨bs,h1,h0,h2,h3⟩:=R;have:=h0 G;subst this;exact⟨[],h1,λ_=>rfl,h2,λb hb=>by simp at hb⟩
def Rh {xs:List (List AV)} {ys:List AV} {l y t:Nat} {C:Array Nat} {pos:String} {u:Array Edge} {Q:St->Prop} (z:F.it=true/\∀b,F.X b->F.V b) (hY:H9 P F l xs) (hy:zK tm y= .s (.func (.yield l) #[] #[])) (hg:zK tm GS= .gh i) (U:xs[i]? =some ys)
 (B:asq.toList.map (yX (zK tm))=ys) (M:vK ys=true) (hm:Nat.blt t m=true)
 (h1:GU P F m ops rest ⟨(GS,.gh (i+1))::(t,.s (.bool true))::tm,h⟩ Q) (h2:GU P F m ops rest ⟨(GS,.gh (ln xs+1+i))::(t,.s (.bool false))::tm,h⟩ Q):
  GU P F m ops (⟨some t,.call ⟨.value (.tmp y),asq,C⟩,ty,pos,u,none⟩::rest) ⟨tm,h⟩ Q:=λa w H=>by
 obtain⟨⟨X,β,hX,Y,I,KK,hJ,hD⟩,nd,gs,hl⟩:=H;have hj:=hJ i hg
 have W:a.eval (.tmp y)= .func (.yield l) #[] #[]:=by
  have:=I y;dsimp only at this;rw[hy]at this;exact this.s_inv
 have E:ln asq.toList=ln ys:=by rw[<-B];simp
 obtain⟨fn,tmps,assign,body,G,A⟩:=hY i ys X (Mh β) w (asq.map a.eval) U hj (by simpa using E) (λj v hv=>by
  rw[<-B,zBe,zBp]at hv;obtain⟨x,L,rfl⟩:=hv;have S:asq[j]? =some x:=by simpa using L
  have e:(asq.map a.eval).getD j undef=a.eval x:=by simp[zB4,S]
  rw[e];have O:(ys[j]?)=some (yX (zK tm) x):=by rw[<-B];simp[L]
  exact(PZ I x).toF (jN M O))
 refine wpListIn_plain Z λK hK=>⟨λ_ _=>trivial,?_⟩
 have he:((⟨some t,.call ⟨.value (.tmp y),asq,C⟩,ty,pos,u,none⟩:Oper).semAt (BL F.ro).round a.eval).run P w= .ok (.round l fn tmps assign body) w:=by
  rw[Oper.semAt_eq _ _ _ (λc hc=>by cases hc)];rw[<-G];simp[execOp,resolve,W,Deferred.ofValue,invoke]
 rw[he];refine⟨λL=>by simp[BL,Fence.wide]at L,?_⟩;refine RoundIn.mono (F:=Fence.wide) A ?_;rintro e W' (⟨rfl,X',q,hj'⟩|⟨rfl,X',q,hj'⟩)
 .refine hK _ _ (h1 _ _ ?_);have R:=VC.quiet z.1 z.2 hX Y I KK hD nd gs hl q hj' t (zBo hm) true;unfold wL;refine R.congr (λs=>?_) (λ_=>rfl);rw[xF,xF]
 .refine hK _ _ (h2 _ _ ?_);have R:=VC.quiet z.1 z.2 hX Y I KK hD nd gs hl q hj' t (zBo hm) false;unfold wL;refine R.congr (λs=>?_) (λ_=>rfl);rw[xF,xF]
def GR {xs:List (List AV)} {ys:List AV} {l y t:Nat} {z:Array Nat} {pos:String} {u:Array Edge} {fs:List FP} {Q:List FP->St->Prop} (A:F.it=true/\∀b,F.X b->F.V b) (G:H9 P F l xs) (M:zK tm y= .s (.func (.yield l) #[] #[])) (I:zK tm GS= .gh i) (E:xs[i]? =some ys)
 (C:asq.toList.map (yX (zK tm))=ys) (B:vK ys=true) (L:Nat.blt t m=true)
 (h1:yP P F m ops false rest ⟨(GS,.gh (i+1))::(t,.s (.bool true))::tm,h⟩ fs Q) (h2:yP P F m ops false rest ⟨(GS,.gh (ln xs+1+i))::(t,.s (.bool false))::tm,h⟩ fs Q):
 yP P F m ops false (⟨some t,.call ⟨.value (.tmp y),asq,z⟩,ty,pos,u,none⟩::rest) ⟨tm,h⟩ fs Q:=⟨Rh A G M I E C B L h1.run h2.run⟩
end
structure UQ (P:Program) (f:Nat) (caps:List AV) (h0:List (Nat×xV)) (xs:List (List AV)):Prop where
 able:bS P f
 sim:∀(l:Nat) (cv:Array Value) (F:Fr (xB h0)),(F.it=true/\∀b,F.X b->F.V b)->F.ro=none->F.h0=zD h0->cv.size=caps.length->jM F.X (zD h0) F.β0 F.w0->(∀(i:Nat) v,caps[i]? =some v->yK F.w0 (xT F.X F.β0) (zD h0) F.β0 v (cv.getD i undef))->
  F.J 0 (Mh F.β0) F.X F.w0->H9 P F l xs->Calls P f (#[.func (.yield l) #[] #[]]++cv) F.w0 λe w'=>(∃v,e= .returned v)/\∃i O X,F.J i O X w'/\(i=xs.length\/xs.length<i)
def V2 (n:Nat) (e:Exit) (st:St):Prop:=(e= .normal\/e= .ret)/\∃i,zK st.tm GS= .gh i/\(i=n\/n<i)
def UR (h:zK st.tm GS= .gh i) (hi:i=n\/n<i):V2 n .ret st:=⟨.inr Z,i,h,hi⟩
def ZQ (h:zK st.tm GS= .gh i) (hi:i=n\/n<i):V2 n .normal st:=⟨.inl Z,i,h,hi⟩
theorem VB {f:Nat} {fn:Func} {u:List AV} {xs:List (List AV)} (hf:P.funcs[f]? =some fn) (hb:fn.body=some body) (C:bS P f) (z:Nat.ble (ln u+1) fn.ntmps=true) (M:fn.results= #[])
 (L:uB h0=true) (h:∀(F:Fr (xB h0)) (l:Nat),F.ro=none->(F.it=true/\∀b,F.X b->F.V b)->H9 P F l xs->uG P F fn.ntmps body ⟨(GS,.gh 0)::UT 0 (.s (.func (.yield l) #[] #[])::u),h0⟩ (V2 (ln xs))) (ac:Nat.ble fn.ntmps GS=true:=by rfl):UQ P f u h0 xs:=by
 refine⟨C,λl E F I R ag ap H A hj hY=>(callsIn_wide (n:=0)).1 ?_⟩;have z:=zBo z;have hw:∀(c:Code) Q a w,c.wpIn (BL F.ro) 0 P Q a w->c.wpIn Fence.wide 0 P Q a w:=λc Q a w h=>by rw[R]at h;exact h
 refine callsIn_of_wp_marks (F:=Fence.wide) (n:=0) hf hb trivial (hw _ _ _ _ (Code.wpIn_mono (λe a' w1 q=>?_) ((h F l R I hY).run _ F.w0 ⟨⟨F.X,F.β0,⟨λ_ h=>h,λ_ h=> .inl h⟩,H,λt=>?_,⟨λk e B=>?_,zBb _,λ_ _ _ _=>rfl,λk b n hm=> .inl ⟨k,n,hm⟩,λk b n hm=>⟨n,zBb _,hm⟩,λ_ _ _ _=>rfl,rfl,rfl,rfl⟩,λi hi=>?_,[],rfl,λ_=>rfl,zF4,λb hb=>by simp at hb⟩,λk=>qI L,zBo ac,?_⟩))) Z
 .obtain⟨st,⟨B,i,hi,hn⟩,⟨⟨X2,β2,_,_,_,_,S,bs,Y,W,_⟩,_,_,_⟩⟩:=q;have U:=W I.1;subst U
  have G:LeavesInM Fence.wide 0 P fn a'.tmps (λe w'=>(∃v,e= .returned v)/\∃i O X,F.J i O X w'/\(i=ln xs\/xs.length<i)) a'.defers .returning w1:=by
   rw[Y];refine⟨.tuple #[],by simp[results,M],⟨_,rfl⟩,i,_,_,S i hi,hn⟩
  rcases B with rfl|rfl
  all_goals exact G
 .dsimp only;rw[xF];split
  .exact .fz _ _ (.gh _ _)
  .rw [VE,zA5 (zBn _),zF0]
   cases t with
   | zero=>
    have e:Act.eval {tmps:= #[Value.func (.yield l) #[] #[]]++E++Array.replicate (fn.ntmps-(#[Value.func (.yield l) #[] #[]]++E).size) undef,defers:=[]} (.tmp 0)= .func (.yield l) #[] #[]:=by
     simp[Act.eval,zB4,Array.getElem?_append]
    rw[e];exact .fz _ _ (.s _)
   | succ t=>
    rw[List.getD_cons_succ];by_cases ht:t<ln u
    .have h2:u[t]? =some (u.getD t .bot):=by simp[pi,ht]
     have e:Act.eval {tmps:= #[Value.func (.yield l) #[] #[]]++E++Array.replicate (fn.ntmps-(#[Value.func (.yield l) #[] #[]]++E).size) undef,defers:=[]} (.tmp (t+1))=E.getD t undef:=by
      simp only[Act.eval,zB4];rw[zC8 qD,zE9 zV];simp
     rw[e];exact A t _ h2
    .have:u.getD t .bot= .bot:=by simp[pi,zCh (by omega:ln u<=t)]
     rw[this];exact .fz _ _ (.bot _)
 .rw[ag]at B
  cases e with
  |dead=>exact absurd B (qI L)
  |box cs=>exact⟨cs,B⟩
  |obj cs=>exact⟨cs,B⟩
  |arr sz xs sl=>exact⟨xs,sl,B,zBb _⟩
 .dsimp only at hi;rw[xF,zA5 Z]at hi;cases hi;exact hj
 .simp;omega
def βr (K:List Nat) (β:uP):uP:=λk=>if k∈K then β k else []
def XX {K:List Nat} {k:Nat} (h:k∈K):βr K β k=β k:=by simp[βr,h]
theorem kJ {K:List Nat} {k b:Nat} (h:(b,n)∈βr K β k):k∈K/\(b,n)∈β k:=by
 unfold βr at h
 grind
theorem zAl {Xc:Nat->Prop} (I:jM X h β w) (G:∀k,k∈xB h0->h k=zD h0 k) (z:∀k e,zD h0 k=some e->my (xB h0) e=true)
 (M:∀b,Xc b->X b\/∃k n,¬k∈xB h0/\(b,n)∈β k):
  jM Xc (zD h0) (βr (xB h0) β) w/\∀v c,yK w (xT X β) h β v c->(∀k,k∈v.refs->k∈xB h0)->yK w (xT Xc (βr (xB h0) β)) (zD h0) (βr (xB h0) β) v c:=by
 have B:∀k,k∈xB h0->βr (xB h0) β k=β k:=λk hk=>XX hk
 have E:∀b,xT Xc (βr (xB h0) β) b->xT X β b:=λb hd=>by
  rcases hd with U|⟨k,n,C⟩
  .exact(M b U).imp id λ⟨k,n,_,C⟩=>⟨k,n,C⟩
  .exact .inr ⟨k,n,(kJ C).2⟩
 have A:∀v c,yK w (xT X β) h β v c->(∀k,k∈v.refs->k∈xB h0)->yK w (xT Xc (βr (xB h0) β)) (zD h0) (βr (xB h0) β) v c:=by
  intro v c hv;have ef:∀{v c},xM w (xT X β) v c->xM w (xT Xc (βr (xB h0) β)) v c:=λR=>R.evo (zBb _) λb _ hd=>⟨rfl,λh'=>hd (E b h')⟩
  induction hv with
  |fz v c R=>exact λ_=> .fz _ _ (ef R)
  |agg cs c hl h1 _ V=>exact λu=> .agg cs c hl h1 λi v hv=>V i v hv λk hk=>u k (by simpa [AV.refs]using wV hv hk)
  |fn f L c hl _ V=>exact λu=> .fn f L c hl λi v hv=>V i v hv λk hk=>u k (by simpa [AV.refs]using wV hv hk)
  |tup vs c hl _ V=>exact λu=> .tup vs c hl λi v hv=>V i v hv λk hk=>u k (by simpa [AV.refs]using wV hv hk)
  |dref k off len c hk h1=>exact λu=> .dref _ _ _ _ ((G k (u k (by simp[AV.refs])))▸hk) h1
  |dptr k i off c hk h1=>exact λu=> .dptr _ _ _ _ ((G k (u k (by simp[AV.refs])))▸hk) h1
  |ref k off len sz xs st b n cap hk hb S hc hs=>exact λu=> .ref k off len sz xs st b n cap ((G k (u k (by simp[AV.refs])))▸hk) (by rw[B k (u k (by simp[AV.refs]))];exact hb) S hc hs
  |ref0 k off sz xs st a hk S=>exact λu=> .ref0 k off sz xs st a ((G k (u k (by simp[AV.refs])))▸hk) S
  |pbox k off cs b n hk hb=>exact λu=> .pbox k off cs b n ((G k (u k (by simp[AV.refs])))▸hk) (by rw[B k (u k (by simp[AV.refs]))];exact hb)
  |parr k i off sz xs st b n hk hb hi ho=>exact λu=> .parr k i off sz xs st b n ((G k (u k (by simp[AV.refs])))▸hk) (by rw[B k (u k (by simp[AV.refs]))];exact hb) hi ho
 refine⟨⟨λk e O=>?_,λk O=>?_,λk k' b n n' q1 q2=>I.disj _ _ _ _ _ (kJ q1).2 (kJ q2).2,λk b n C U=>?_,λb hd=>I.lt b (E b hd)⟩,A⟩
 .have hk:=uJ O
  refine(I.ent k e ((G k hk).trans O)).lift (B k hk) (λcs W i v c hi hv=>A v c hv λj hj=>by
   have:=z k e O;rw[W]at this
   simpa using zBk.1 this j (wV hi hj)) λsz xs fl Y i x j v c hi hj=>⟨λR=>R.evo (zBb _) λb _ hd=>⟨rfl,λh'=>hd (E b h')⟩,λS hv=>A v c hv λq hq=>by
   have:=z k e O;rw[Y]at this;simp only[my,S,zCm]at this
   simpa using zBk.1 this q (wV hi (VD hj hq))⟩
 .unfold βr;rw[Os];intro hk;obtain⟨e,hk⟩:=bT hk
  grind
 .obtain⟨hk,C⟩:=kJ C
  rcases M b U with U|⟨k',n',hk',hm'⟩
  .exact I.free k b n C U
  .exact hk' (I.disj k k' b n n' C hm'▸hk)
def RF (h:yT):Prop:=∀k sz xs u,h k=some (.arr sz xs u)->u.nest=false
def R6:List (Nat×xV)->Bool
 | []=>true
 |(_,e)::r=>match e with
  | .arr _ _ u=>!u.nest&&R6 r
  |_=>R6 r
theorem om:∀{h:List (Nat×xV)},R6 h=true->RF (zD h)
 | [],_,k,sz,xs,z,u=>by simp[zD]at u
 | (j,e)::r,hn,k,sz,xs,z,u=>by
  rw[xK]at u;split at u
  .cases u;simp[R6]at hn;exact hn.1
  .refine om (h:=r) ?_ k sz xs z u
   cases e with
   |arr _ _ _=>simp[R6]at hn;exact hn.2
   |_=>exact hn
theorem qu (nn:RF h) (K:List Nat):∀v:AV,kC K h v=wY K h v:=by
 intro v;refine AV.rec (motive_1:=λv=>kC K h v=wY K h v) (motive_2:=λcs=>vM K h cs=kQ K h cs) ?_ ?_ ?_ ?_ ?_ ?_ ?_ ?_ ?_ ?_ ?_ ?_ ?_ ?_ v
 .rfl
 .exact λ_=>rfl
 .exact λ_=>rfl
 .simp_all [yT,RF,kC,wY]
 .exact λ_ _ _=>rfl
 .exact λ_ _ _=>rfl
 .intro k off len;simp only[kC,wY]
  cases K.contains k with
  |true=>rfl
  |false=>
   simp only[zC7];split
   .rename_i xs z u;rw[nn _ _ _ _ u];rfl
   .rfl
 .intro k i off;rfl
 .exact λ_ _ _ _=>rfl
 .simp_all [yT,RF,kC,wY]
 .simp_all [yT,RF,kC,wY]
 .exact λ_ _=>rfl
 .rfl
 .exact λv r h1 h2=>by simp only[vM,kQ];rw[h1,h2]
theorem jM.restrX {X':Nat->Prop} (H:jM X h β w) (K L:List Nat) (R:∀b,X' b->X b\/∃k n,k∈L/\(b,n)∈β k) (M:∀k,k∈L->¬k∈K) (nn:RF h)
 (O:∀k cs,k∈K->h k=some (.box cs)->∀j,j∈jS cs->¬j∈L):
  jM X' (zD (wZ K h)) (βr K β) w/\∀v c,(∀j,j∈v.refs->¬j∈L)->yK w (xT X β) h β v c->yK w (xT X' (βr K β)) (zD (wZ K h)) (βr K β) (wY K h v) c:=by
 have C:∀b,xT X' (βr K β) b->xT X β b:=λb hd=>by
  rcases hd with hb|⟨k,n,A⟩
  .exact(R b hb).imp id λ⟨k,n,_,A⟩=>⟨k,n,A⟩
  .exact .inr ⟨k,n,(kJ A).2⟩
 have hv:∀v c,(∀j,j∈v.refs->¬j∈L)->yK w (xT X β) h β v c->yK w (xT X' (βr K β)) (zD (wZ K h)) (βr K β) (wY K h v) c:=λv c hr hv=>by
  rw[<-qu nn];refine yK.fz0 H (K:=K) (λk hk e B=>?_) (λk hk=>XX hk) (λb _ hd h'=>hd (C b h')) hv λk S=>?_
  .rw[wH,zA5 hk,B]
   cases e with
   |box cs=>exact⟨_,rfl⟩
   |obj cs=>exact⟨_,rfl⟩
   |arr sz xs fl=>exact⟨xs,fl,by simp only[zC0,kD,nn _ _ _ _ B,zC7],rfl⟩
   |dead=>rfl
  .by_cases hk:k∈K
   .exact .inl hk
   .refine .inr λb n A=>?_
    rintro(hb|⟨G,I,z⟩)
    .rcases R b hb with hb|⟨G,I,hk',z⟩
     .exact H.free k b n A hb
     .exact hr k S (H.disj k G b n I A z▸hk')
    .obtain⟨hk',z⟩:=kJ z;exact hk (H.disj k G b n I A z▸hk')
 have Y:∀{v c},xM w (xT X β) v c->xM w (xT X' (βr K β)) v c:=λhf=>hf.evo (zBb _) λb _ hd=>⟨rfl,λh'=>hd (C b h')⟩
 refine⟨⟨λk e B=>?_,λk B=>?_,λk G b n I h1 h2=>H.disj _ _ _ _ _ (kJ h1).2 (kJ h2).2,λk b n A hb=>?_,λb hd=>H.lt b (C b hd)⟩,hv⟩
 .rw[wH]at B;split at B
  .rename_i hk;rw[zBp]at B;obtain⟨U,E,rfl⟩:=B;have:=H.ent k U E
   cases U with
   |dead=>show βr K β k=[];rw[XX hk];exact this
   |box cs=>
    obtain⟨b,c,el,h1,h2,h3,h4,h5⟩:=this;refine⟨b,c,el,by rw[XX hk];exact h1,h2,by rw[uC];exact h3,h4,λi v hi=>?_⟩;rw[aM,zBp]at hi;obtain⟨u,W,rfl⟩:=hi;exact hv u _ (λj hj=>O k cs hk E j (wV W hj)) (h5 i u W)
   |obj cs=>
    exact⟨by rw[XX hk];exact this.1,this.2⟩
   |arr sz xs st=>
    obtain⟨g1,g2,g3,g4,g5,f,g6,g7,g8⟩:=this;have V:=nn _ _ _ _ E;rw[show kD K h (.arr sz xs st)= .arr sz xs st by simp only[kD,V,zC7]];exact⟨g1,g2,by rw[XX hk];exact g3,g4,by rw[XX hk];exact g5,f,.ofF λi x j v R hy=>Y (g6.toF V i x j v R hy),g7,by rw[XX hk];exact g8⟩
  .cases B
 .unfold βr;split
  .rename_i hk;rw[wH,zA5 hk]at B
   cases hk':h k with
   |none=>exact H.off k hk'
   |some e=>simp[hk']at B
  .rfl
 .obtain⟨hk,A⟩:=kJ A
  rcases R b hb with hb|⟨G,I,hk',z⟩
  .exact H.free k b n A hb
  .exact M G hk' (H.disj k G b n I A z▸hk)
theorem rm (K:List Nat) (h h':yT):∀v:AV,wY K h' (wY K h v)=wY K h v:=by
 intro v;refine AV.rec (motive_1:=λv=>wY K h' (wY K h v)=wY K h v) (motive_2:=λcs=>kQ K h' (kQ K h cs)=kQ K h cs) ?_ ?_ ?_ ?_ ?_ ?_ ?_ ?_ ?_ ?_ ?_ ?_ ?_ ?_ v
 .rfl
 .exact λ_=>rfl
 .exact λ_=>rfl
 .simp_all [yT,wY]
 .exact λ_ _ _=>rfl
 .exact λ_ _ _=>rfl
 .intro k off len;simp only[wY]
  cases hc:K.contains k with
  |true=>simp only[zCm,wY,hc]
  | false=>
   simp only[zC7]
   rcases h k with _|(_|⟨_,xs,fl⟩|_|_)
   .rfl
   .rfl
   .dsimp only
    cases fl.nest with
    |false=>rfl
    |true=>
     simp only[zCm]
     cases vK (vM K h xs)<;>rfl
   .rfl
   .rfl
 .intro k i off;simp only[wY]
  cases hc:K.contains k with
  |true=>simp only[zCm,wY,hc]
  |false=>rfl
 .exact λ_ _ _ _=>rfl
 .simp_all [yT,wY]
 .simp_all [yT,wY]
 .exact λ_ _=>rfl
 .rfl
 .exact λv r h1 h2=>by simp only[kQ];rw[h1,h2]
section
variable {K0:List Nat} {F:Fr K0} {h:yT} {β:uP} {w w':World} {X:Nat->Prop}
theorem fF.toGoes (O:∀b,¬F.V b) (I:jM F.X F.h0 F.β0 F.w0) (H:jM X h β w) (K:fF F h β w) (S:∀k,F.h0 k≠some .dead):xU X F.w0 F.h0 F.β0 w h β where
 size:=K.size
 keep b hb hn:=K.keep b hb (O b) hn
 own:=K.own
 bs:=K.bs
 key k e he:=by
  refine .inr ?_;have h1:=K.knd k e he
  cases e with
  |dead=>exact absurd he (S k)
  |box L=>
   obtain⟨A,h2⟩:=h1;refine⟨⟨_,h2⟩,λb n z=>?_⟩;obtain⟨R,C,u⟩:=K.pas k b n z;obtain⟨W,_,_,B,_⟩:=H.ent k _ h2;obtain⟨U,_,_,e1,_⟩:=I.ent k _ he;rw[e1]at z;rw[B]at u⊢;simp at z u⊢;exact⟨u.1,z.2⟩
  |obj cs=>
   obtain⟨A,h2⟩:=h1;refine⟨⟨_,h2⟩,λb n z=>?_⟩;obtain⟨R,C,u⟩:=K.pas k b n z;have B:=(H.ent k _ h2).1;have e1:=(I.ent k _ he).1;rw[e1]at z;rw[B]at u⊢;simp at z u⊢;exact⟨u.1,z.2⟩
  |arr sz xs sl=>
   obtain⟨G,E,h2,M⟩:=h1;exact⟨⟨G,E,h2,M⟩,λb n z=>K.pas k b n z⟩
 hok:=H
 os:=K.os
 tape:=K.tape
 output:=K.output
theorem fF.turn (K:fF F h β w) (H:jM X h β w) (C:w'.heap.size=w.heap.size) (hk:∀b,b<w.heap.size->¬X b->w'.heap[b]? =w.heap[b]?) (hl:∀b,b<F.w0.heap.size->w'.heap[b]? =w.heap[b]?) (E:w'.os=w.os) (G:w'.tape=w.tape) (I:w'.output=w.output):fF F h β w':=
 ⟨K.knd,by rw[C];exact K.size,λb hb hi B=>by rw[hl b hb];exact K.keep b hb hi B,K.own,K.pas,λk b n z=>by
  rw[<-K.bs k b n z];obtain⟨A,_,u⟩:=K.pas k b n z;unfold wO World.shape?
  rw[hk b (H.lt b (.inr ⟨k,A,u⟩)) (H.free k b A u)],E.trans K.os,G.trans K.tape,I.trans K.output⟩
theorem fF.restr (K:fF F h β w) (Ks:List Nat) (L:∀k,k∈K0->k∈Ks):fF F (zD (wZ Ks h)) (βr Ks β) w:=by
 refine⟨λk e M=>?_,K.size,K.keep,λk b n u=>K.own k b n (kJ u).2,λk b n u=>?_,K.bs,K.os,K.tape,K.output⟩
 .have hk:=L k (F.hh k e M);have h1:=K.knd k e M;have C:∀A,h k=some A->zD (wZ Ks h) k=some (kD Ks h A):=λA h2=>by rw[wH,zA5 hk,h2];rfl
  cases e with
  |dead=>exact h1
  |box cs=>obtain⟨z,h2⟩:=h1;exact⟨_,C _ h2⟩
  |obj cs=>obtain⟨z,h2⟩:=h1;exact⟨_,C _ h2⟩
  |arr sz xs sl=>obtain⟨G,E,h2,O⟩:=h1;obtain⟨I,B,R,S⟩:=gV Ks h sz G E;exact⟨I,B,(C _ h2).trans (by rw[R]),by rw[S];exact O⟩
 .rw[XX (L k (F.hK k b n u))];exact K.pas k b n u
end
def mf (u:List Nat) (ys:List AV) (T:List (Nat×AV)):List (Nat×AV):=(u.zip ys).foldl (λz p=>p::z) T
theorem JN {D:Nat->Prop} :∀(u:List Nat) (ys:List AV) (cs:List Value) (T:List (Nat×AV)) (tmps:Array Value),ln ys=ln cs->(∀(j:Nat) v c,ys[j]? =some v->cs[j]? =some c->yK w D h β v c)->(∀p,p∈u->p<tmps.size)->
  (∀t,yK w D h β (zK T t) (tmps.getD t undef))->∀t,yK w D h β (zK (mf u ys T) t) (((u.zip cs).foldl (λtmps (p:Nat×Value)=>tmps.setIfInBounds p.1 p.2) tmps).getD t undef)
 | [],ys,cs,T,tmps,_,_,_,h,t=>h t
 |p::u,[],cs,T,tmps,hl,_,_,h,t=>by
  obtain rfl:cs=[]:=zB5 hl.symm;exact h t
 |p::u,y::ys,[],T,tmps,hl,_,_,h,t=>by simp at hl
 | p::u,y::ys,c::cs,T,tmps,hl,C,B,h,t=>by
  have z:=B p zV;refine JN u ys cs ((p,y)::T) (tmps.setIfInBounds p c) BU (λj v E h1 h2=>C (j+1) v E ID IE) (λq G=>by simpa using B q (by simp[G])) (λs=>?_) t;rw[xF];by_cases A:s=p
  .subst A;rw[zA5 Z];have e:(tmps.setIfInBounds s c).getD s undef=c:=by simp[zB4,z]
   rw[e];exact C 0 y c Z Z
  .rw[Os A];have e:(tmps.setIfInBounds p c).getD s undef=tmps.getD s undef:=by simp[zB4,Array.getElem?_setIfInBounds_ne (Ne.symm A)]
   rw[e];exact h s
theorem fF.evo {F:Fr K0} (A:Q6 F X) (G:xU X F.w0 F.h0 F.β0 w h β):EZ F.w0 (xT F.X F.β0) F.h0 F.β0 w (xT X β) h β:=
 ⟨G.size,λb hb hd=>⟨G.keep b hb λk n z=>hd (.inr ⟨k,n,z⟩),λh'=>by
  rcases h' with u|⟨k,n,z⟩
  .rcases A.2 b u with u|u
   .exact hd (.inl u)
   .omega
  .rcases G.own k b n z with⟨B,C,h2⟩|h2
   .exact hd (.inr ⟨B,C,h2⟩)
   .omega⟩,G.bs,G.key⟩
structure RG {K0:List Nat} (F:Fr K0) (T:List (Nat×AV)) (a:Act) (l:Nat) (hc:List (Nat×xV)) (rec:Loop) (O X:Nat->Prop) (W:World):Prop where
 ex:∃Xc βc,Q6 F Xc/\jM Xc (zD hc) βc W/\(∀t,yK W (xT Xc βc) (zD hc) βc (zK T t) (a.eval (.tmp t)))/\fF F (zD hc) βc W/\
  (∃bs:List Nat,a.defers=bs.map (λb=>{target:= .collected b,args:= #[]})/\bs.Nodup/\∀b,b∈bs->Xc b/\F.w0.heap.size<=b/\W.heap[b]? =some (.deferred (some []))/\¬O b)/\
  (∀b,O b->Xc b/\F.w0.heap.size<=b/\¬F.X b)/\(∀b,Mh βc b->X b)/\(∀b,Xc b->X b\/O b)/\Xc l
 lx:X l
 lo:¬O l
 lh:W.heap[l]? =some (.loop rec)
 ll:F.w0.heap.size<=l
 xl:∀b,X b->b<W.heap.size
 nd:∀k,zD hc k≠some .dead
section
variable {K0:List Nat} {F:Fr K0} {T:List (Nat×AV)} {a:Act} {l:Nat} {hc:List (Nat×xV)} {rec:Loop} {O O' X:Nat->Prop} {W W':World}
theorem RG.stab (C:RG F T a l hc rec O X W) (S:W.heap.size<=W'.heap.size) (hk:∀b,b<W.heap.size->¬O b->W'.heap[b]? =W.heap[b]?) (M:∀b,O' b->O b\/W.heap.size<=b) (hl:∀b,O' b->b<W'.heap.size) (o1:W'.os=W.os) (o2:W'.tape=W.tape) (o3:W'.output=W.output):RG F T a l hc rec O' X W':=by
 obtain⟨⟨Xc,L,U,B,c3,G,⟨bs,d1,d2,d3⟩,I,c8,V,Y⟩,lx,lo,lh,ll,xl,nd⟩:=C;have ac:l<W.heap.size:=xl l lx;have R:∀k b n,(b,n)∈L k->¬O b:=λk b n A u=>B.free k b n A (I b u).1
 have E:EZ W (xT Xc L) (zD hc) L W' (xT (λb=>(Xc b/\¬O b)\/O' b) L) (zD hc) L:=by
  refine⟨S,λb hb hd=>⟨hk b hb λu=>hd (.inl (I b u).1),λh'=>?_⟩,λk b n A=>?_,jB _ _⟩
  .rcases h' with(z|z)|z
   .exact hd (.inl z.1)
   .rcases M b z with u|u
    .exact hd (.inl (I b u).1)
    .omega
   .exact hd (.inr z)
  .unfold wO World.shape?;rw[hk b (B.lt b (.inr ⟨k,n,A⟩)) (R k b n A)]
 refine⟨⟨λb=>(Xc b/\¬O b)\/O' b,L,⟨λb hb=> .inl ⟨U.1 b hb,λu=>(I b u).2.2 hb⟩,λb hb=>?_⟩,⟨λk e he=>(B.ent k e he).evo E Z λb n A=>hk b (B.lt b (.inr ⟨k,n,A⟩)) (R k b n A),B.off,B.disj,λk b n A z=>?_,λb hd=>?_⟩,λt=>(c3 t).evo E,⟨G.knd,zCa G.size S,λb hb hi hn=>?_,G.own,G.pas,λk b n A=>?_,o1.trans G.os,o2.trans G.tape,o3.trans G.output⟩,⟨bs,d1,d2,λb hb=>?_⟩,λb hb=>?_,c8,λb hb=>?_,.inl ⟨Y,lo⟩⟩,lx,λh=>?_,by rw[hk l ac lo];exact lh,ll,λb hb=>zCb (xl b hb) S,nd⟩
 .rcases hb with hb|hb
  .exact U.2 b hb.1
  all_goals grind
 .rcases z with z|z
  .exact B.free k b n A z.1
  .rcases M b z with u|u
   .grind
   .have:=B.lt b (.inr ⟨k,n,A⟩);omega
 .rcases hd with(z|z)|z
  .grind
  .exact hl b z
  .exact zCb (B.lt b (.inr z)) S
 .rw[hk b (zCb hb G.size) λu=>by have:=(I b u).2.1;omega];exact G.keep b hb hi hn
 .obtain⟨n',_,ag⟩:=G.pas k b n A;rw[E.bs k b n' ag,G.bs k b n A]
 .obtain⟨q1,q2,q3,q4⟩:=d3 b hb;refine⟨.inl ⟨q1,q4⟩,q2,by rw[hk b (B.lt b (.inl q1)) q4];exact q3,λh=>?_⟩
  rcases M b h with u|u
  .exact q4 u
  .have:=B.lt b (.inl q1);omega
 .refine⟨.inr hb,?_⟩
  rcases M b hb with u|u
  .exact(I b u).2
  .exact⟨zCa G.size u,λz=>by have:=B.lt b (.inl (U.1 b z));omega⟩
 .rcases hb with hb|hb
  .exact(V b hb.1).imp id λu=>absurd u hb.2
  .exact .inr hb
 .rcases M l h with u|u
  .exact lo u
  .omega
def sm (e:Exit) (c:Code):Prop:=(e= .ret/\c= .ret)\/∃id,e= .exit id/\c= .exit id
theorem RG.round {m:Nat} {U:Array Tmp} {assign:Code} {fn:FuncId} {bd:Nat} {Ks:List Nat} {ys:List AV} {cs:Array Value} {Rq:Exit->List (Nat×xV)->Prop} (b7:∀p,p∈U.toList->p<m) (u:a.tmps.size=m) (gs:m<=GS)
 (bk:rec= {state:= .ready,pending:=none,fn:=fn,tmps:=a.tmps,params:=U,assign:=assign,body:=body,defers:=bd}) (C:RG F T a l hc rec O X W) (hT:∀t h',wY Ks h' (zK T t)=zK T t) (b0:∀k,k∈K0->k∈Ks)
 (br:cs.size=ln ys) (b6:U.size=ln ys) (bl:∀(j:Nat) v,ys[j]? =some v->xM W (λb=>X b\/O b) v (cs.getD j undef)) (b1:∀e h,Rq e h->e= .normal\/e= .ret\/∃id,e= .exit id)
 (cc:∀(F1:Fr (xB hc)),F1.it=true->F1.ro=some l->uG P F1 m assign ⟨mf U.toList ys T,hc⟩ (λe s=>e= .normal/\∀(F2:Fr (xB s.h)),F2.it=true->F2.ro=some l->uG P F2 m body s (λe s'=>Rq e (wZ Ks (zD s'.h))))):
  YieldAt Fence.wide 0 P l cs W λe W'=>(e= .returned (.bool true)/\∃X',aZ X X' W W'/\∃h',Rq .normal h'/\RG F T a l h' rec O X' W')\/
   (e= .returned (.bool false)/\∃X',aZ X X' W W'/\∃h' x c,sm x c/\Rq x h'/\RG F T a l h' {rec with state:= .done,pending:=some c} O X' W'):=by
 obtain⟨⟨Xc,βc,c1,c2,c3,c4,⟨bs,d1,d2,d3⟩,c6,c8,a8,a9⟩,lx,lo,lh,ll,xl,nd⟩:=C;have au:l<W.heap.size:=xl l lx;subst bk;refine⟨_,_,_,_,run_yield lh (by simpa using br.trans b6.symm),?_⟩;dsimp only;refine roundIn_of_wpIn (F:=Fence.wide) (n:=0) trivial ?_
 let F1:Fr (xB hc):=⟨Xc,W,βc,zD hc,λk b n u=>by
  cases hk:zD hc k with
  |none=>rw[c2.off k hk]at u;simp at u
  |some e=>exact uJ hk,λk e he=>uJ he,some l,true,λ_=>False,λ_ _ _ _=>True,λ_ _ _ _ _ _ _ _ _ _ _ _ _ _=>trivial⟩
 have ar:∀{G:List Nat} (F:Fr G),F.it=true->jM F.X F.h0 F.β0 F.w0->(∀k,F.h0 k≠some .dead)->fF F F.h0 F.β0 F.w0:=λF _ H nd=>
  ⟨λk e he=>by
   cases e with
   |dead=>exact absurd he (nd k)
   |box cs=>exact⟨cs,he⟩
   |obj cs=>exact⟨cs,he⟩
   |arr sz xs sl=>exact⟨xs,sl,he,zBb _⟩,zBb _,λ_ _ _ _=>rfl,λk b n u=> .inl ⟨k,n,u⟩,λk b n u=>⟨n,zBb _,u⟩,λ_ _ _ _=>rfl,rfl,rfl,rfl⟩
 have L:∀(z:List (Nat×Value)) (tm:Array Value),(z.foldl (λtmps (p:Nat×Value)=>tmps.setIfInBounds p.1 p.2) tm).size=tm.size:=by
  intro z
  induction z with
  |nil=>exact λ_=>rfl
  |cons p z ih=>intro tm;rw[List.foldl_cons,ih];simp
 have ac:(U.zip cs).foldl (λtmps (p:Nat×Value)=>tmps.setIfInBounds p.1 p.2) a.tmps=(U.toList.zip cs.toList).foldl (λtmps (p:Nat×Value)=>tmps.setIfInBounds p.1 p.2) a.tmps:=by
  rw[<-Array.foldl_toList,Array.toList_zip]
 have R1:wL F1 m ⟨mf U.toList ys T,hc⟩ {tmps:=(U.zip cs).foldl (λtmps (p:Nat×Value)=>tmps.setIfInBounds p.1 p.2) a.tmps,defers:=[]} W:=by
  refine⟨⟨Xc,βc,⟨λ_ h=>h,λ_ h=> .inl h⟩,c2,λt=>?_,ar F1 Z c2 nd,λ_ _=>trivial,[],rfl,λ_=>rfl,zF4,λb hb=>by simp at hb⟩,nd,gs,by rw[ac,L];exact u⟩;rw[ac];refine JN U.toList ys cs.toList T a.tmps (by simpa using br.symm) (λj v c h1 h2=>?_) (λp hp=>by rw[u];exact b7 p hp) c3 t;have h3:=bl j v h1;have e:cs.getD j undef=c:=eG IE;rw[e]at h3;exact .fz _ _ (h3.less λb hd=>hd.elim (a8 b) λho=> .inl (c8 b ho))
 refine Code.wpIn_mono (λe a1 w1 q=>?_) ((cc F1 Z Z).run _ _ R1);obtain⟨s,⟨rfl,hs⟩,⟨⟨X1,β1,R,H1,bx,G,_,cd,b3,b2,_⟩,az,bz,b4⟩⟩:=q;have:=b2 Z;subst this;have G1:=G.toGoes (λ_ h=>h) c2 H1 nd;have E1:=fF.evo R G1;have ba:w1.heap[l]? =W.heap[l]? :=G.keep l au (λh=>h) λk n u=>c2.free k l n u a9
 have Y:X1 l:=R.1 l a9;refine⟨_,run_beginRound (ba.trans lh) Z,?_⟩;generalize av:w1.putObj l _=w2;have I:w2.heap.size=w1.heap.size:=by rw[<-av];simp
 have a5:∀b,b≠l->w2.heap[b]? =w1.heap[b]? :=λb hb=>by rw[<-av];exact World.putObj_heap_other hb
 have ca:w2.heap[l]? =some (.loop {state:= .busy,pending:=none,fn:=fn,tmps:=a.tmps,params:=U,assign:=assign,body:=body,defers:=bd}):=by
  rw[<-av];exact World.putObj_heap_same (zCb au G.size)
 have A:w2.os=w1.os/\w2.tape=w1.tape/\w2.output=w1.output:=by rw[<-av];exact⟨rfl,rfl,rfl⟩
 have ag:∀b,b<w1.heap.size->¬X1 b->w2.heap[b]? =w1.heap[b]? :=λb _ hx=>a5 b λe=>hx (e▸Y)
 have a4:=H1.turn (zDc I.symm) ag;have E2:=UU H1 (zDc I.symm) ag
 let F2:Fr (xB s.h):=⟨X1,w2,β1,zD s.h,λk b n u=>by
  cases hk:zD s.h k with
  |none=>rw[H1.off k hk]at u;simp at u
  |some e=>exact uJ hk,λk e he=>uJ he,some l,true,λ_=>False,λ_ _ _ _=>True,λ_ _ _ _ _ _ _ _ _ _ _ _ _ _=>trivial⟩
 have R2:wL F2 m s a1 w2:=⟨⟨X1,β1,⟨λ_ h=>h,λ_ h=> .inl h⟩,a4,λt=>(bx t).evo E2,ar F2 Z a4 az,λ_ _=>trivial,[],b3,λ_=>rfl,zF4,λb hb=>by simp at hb⟩,az,bz,b4⟩;refine Code.wpIn_mono (λe a2 V q=>?_) ((hs F2 Z Z).run _ _ R2);obtain⟨s3,hq,⟨⟨X3,β3,S,H3,_,K3,_⟩,bu,_,_⟩⟩:=q;have G3:=K3.toGoes (λ_ h=>h) a4 H3 az;have E3:=fF.evo S G3;have a7:=(K3.keep l (by show l<w2.heap.size;rw[I];exact zCb au G.size) (λh=>h) λk n u=>H1.free k l n u Y).trans ca;have b5:l<V.heap.size:=zCb (by rw[I];exact zCb au G.size) K3.size;have a3:X3 l:=S.1 l Y;have cf:W.heap.size<=V.heap.size:=zCa G.size (by rw[<-I];exact K3.size)
 have key:∀E:Loop,∃X',aZ X X' W (V.putObj l (.loop E))/\RG F T a l (wZ Ks (zD s3.h)) E O X' (V.putObj l (.loop E)):=by
  intro E;generalize ax:V.putObj l (.loop E)=w4;have M:w4.heap.size=V.heap.size:=by rw[<-ax];simp
  have a6:∀b,b≠l->w4.heap[b]? =V.heap[b]? :=λb hb=>by rw[<-ax];exact World.putObj_heap_other hb
  have cb:w4.heap[l]? =some (.loop E):=by rw[<-ax];exact World.putObj_heap_same b5
  have B:w4.os=V.os/\w4.tape=V.tape/\w4.output=V.output:=by rw[<-ax];exact⟨rfl,rfl,rfl⟩
  have ap:∀b,b<V.heap.size->¬X3 b->w4.heap[b]? =V.heap[b]? :=λb _ hx=>a6 b λe=>hx (e▸a3)
  obtain⟨H4,b9⟩:=H3.restr Ks;have H5:=H4.turn (zDc M.symm) ap;have E5:=UU H4 (zDc M.symm) ap
  have oc:∀b,X3 b->Xc b\/W.heap.size<=b:=λb hb=>by
   rcases S.2 b hb with h|h
   .exact R.2 b h
   .have h2:w2.heap.size<=b:=h;rw[I]at h2;exact .inr (zCa G.size h2)
  have old:∀b,b<W.heap.size->b≠l->¬Mh βc b->w4.heap[b]? =W.heap[b]? :=λb hb bb bf=>by
   rw[a6 b bb]
   have h1:∀k n,(b,n)∉β1 k:=λk n u=>by
    rcases G.own k b n u with⟨k',n',h⟩|h
    .exact bf ⟨k',n',h⟩
    .have:W.heap.size<=b:=h;omega
   have q1:=K3.keep b (by show b<w2.heap.size;rw[I];exact zCb hb G.size) (λh=>h) h1;have q2:=G.keep b hb (λh=>h) λk n u=>bf ⟨k,n,u⟩
   exact q1.trans ((a5 b bb).trans q2)
  have KF:fF F (zD (wZ Ks (zD s3.h))) (βr Ks β3) w4:=by
   have k1:fF F (zD s.h) β1 w1:=c4.goes G1 az λk b n u=>G.pas k b n u
   have k2:fF F (zD s.h) β1 w2:=k1.turn H1 I ag (λb hb=>a5 b λe=>by omega) A.1 A.2.1 A.2.2;have k3:fF F (zD s3.h) β3 V:=k2.goes G3 bu λk b n u=>K3.pas k b n u
   have k4:=k3.restr Ks b0;exact k4.turn H4 M ap (λb hb=>a6 b λe=>by omega) B.1 B.2.1 B.2.2
  refine⟨λb=>X b\/Mh (βr Ks β3) b\/(X3 b/\¬O b),⟨by omega,λb hb hx=>⟨old b hb (λe=>hx (e▸lx)) λho=>hx (c8 b ho),λh'=>?_⟩,λb hb=> .inl hb,λb hb=>?_,?_,?_,?_⟩,⟨X3,βr Ks β3,⟨λb hb=>S.1 b (R.1 b (c1.1 b hb)),λb hb=>?_⟩,H5,λt=>?_,KF,⟨bs,d1,d2,λb hb=>?_⟩,λb hb=>?_,λb hb=> .inr (.inl hb),λb hb=>?_,a3⟩,.inl lx,lo,cb,ll,λb hb=>?_,λk=>?_⟩
  .rcases h' with h|⟨k,n,u⟩|⟨h,hO⟩
   .exact hx h
   .have u:=(kJ u).2
    rcases K3.own k b n u with⟨k',n',h⟩|h
    .rcases G.own k' b n' h with⟨k2,n2,h⟩|h
     .exact hx (c8 b ⟨k2,n2,h⟩)
     .have:W.heap.size<=b:=h;omega
    .have h2:w2.heap.size<=b:=h;have:=G.size;have:W.heap.size<=w1.heap.size:=this;omega
   .rcases oc b h with h|h
    .exact(a8 b h).elim hx hO
    .omega
  .rcases hb with h|⟨k,n,u⟩|⟨h,hO⟩
   .have:=xl b h;omega
   .rw[M];exact H3.lt b (.inr ⟨k,n,(kJ u).2⟩)
   .rw[M];exact H3.lt b (.inl h)
  .exact B.1.trans (K3.os.trans (A.1.trans G.os))
  .exact B.2.1.trans (K3.tape.trans (A.2.1.trans G.tape))
  .exact B.2.2.trans (K3.output.trans (A.2.2.trans G.output))
  .rcases oc b hb with h|h
   .exact c1.2 b h
   .exact .inr (zCa c4.size h)
  .have:=b9 _ _ ((((c3 t).evo E1).evo E2).evo E3);rw[hT]at this;exact this.evo E5
  .obtain⟨q1,q2,q3,q4⟩:=d3 b hb;refine⟨S.1 b (R.1 b q1),q2,?_,q4⟩;rw[old b (c2.lt b (.inl q1)) (λe=>by rw[e,lh]at q3;cases q3) λ⟨k,n,u⟩=>c2.free k b n u q1];exact q3
  .exact⟨S.1 b (R.1 b (c6 b hb).1),(c6 b hb).2⟩
  .by_cases hO:O b
   .exact .inr hO
   .exact .inl (.inr (.inr ⟨hb,hO⟩))
  .rcases hb with h|⟨k,n,u⟩|⟨h,hO⟩
   .have:=xl b h;omega
   .rw[M];exact H3.lt b (.inr ⟨k,n,(kJ u).2⟩)
   .rw[M];exact H3.lt b (.inl h)
  .rw[wH];split
   .intro h;rw[zBp]at h;obtain⟨e,he,h2⟩:=h
    cases e with
    |dead=>exact bu k he
    |box cs=>cases h2
    |obj cs=>cases h2
    |arr sz xs st=>obtain⟨cg,ce,h4,_⟩:=gV Ks (zD s3.h) sz xs st;rw[h4]at h2;cases h2
   .intro h;cases h
 rcases b1 e _ hq with rfl|rfl|⟨id,rfl⟩
 .obtain⟨X',q1,q2⟩:=key {state:= .ready,pending:=none,fn:=fn,tmps:=a.tmps,params:=U,assign:=assign,body:=body,defers:=bd};exact⟨_,_,run_endRound none a7,.inl ⟨rfl,X',q1,_,hq,q2⟩⟩
 .obtain⟨X',q1,q2⟩:=key {state:= .done,pending:=some .ret,fn:=fn,tmps:=a.tmps,params:=U,assign:=assign,body:=body,defers:=bd};exact⟨_,_,run_endRound (some .ret) a7,.inr ⟨rfl,X',q1,_,.ret,.ret,.inl ⟨rfl,rfl⟩,hq,q2⟩⟩
 .obtain⟨X',q1,q2⟩:=key {state:= .done,pending:=some (.exit id),fn:=fn,tmps:=a.tmps,params:=U,assign:=assign,body:=body,defers:=bd};exact⟨_,_,run_endRound (some (.exit id)) a7,.inr ⟨rfl,X',q1,_,.exit id,.exit id,.inr ⟨id,rfl,rfl⟩,hq,q2⟩⟩
end
theorem RH (w:World) (o:Obj) (b:Nat) (h:b<w.heap.size):(w.alloc o).heap[b]? =w.heap[b]? :=by
 show(w.heap.push o)[b]? =_
 grind
theorem fF.grow {F:Fr K0} {w':World} (K:fF F h β w) (H:jM X h β w) (B:w.heap.size<=w'.heap.size) (hk:∀b,b<w.heap.size->w'.heap[b]? =w.heap[b]?) (E:w'.os=w.os) (G:w'.tape=w.tape) (I:w'.output=w.output):fF F h β w':=
 ⟨K.knd,zCa K.size B,λb hb hi A=>by rw[hk b (zCb hb K.size)];exact K.keep b hb hi A,K.own,K.pas,λk b n z=>by
  rw[<-K.bs k b n z];obtain⟨C,_,u⟩:=K.pas k b n z;unfold wO World.shape?
  rw[hk b (H.lt b (.inr ⟨k,C,u⟩))],E.trans K.os,G.trans K.tape,I.trans K.output⟩
section
variable {P:Program} {K0:List Nat} {F:Fr K0} {m:Nat} {st:St} {T:List (Nat×AV)} {a:Act} {l:Nat} {hc:List (Nat×xV)} {rec:Loop} {O X:Nat->Prop} {W:World}
theorem RG.rel (C:RG F T a l hc rec O X W) (B:F.it=false) (hT:∀i,zK T GS≠ .gh i) (gs:m<=GS) (hl:a.tmps.size=m) (o:Obj):wL F m ⟨T,hc⟩ a (W.putObj l o):=by
 obtain⟨⟨Xc,βc,I,A,M,R,⟨G,S,U,d3⟩,c6,c8,L,z⟩,lx,lo,lh,ll,xl,Y⟩:=C;have sz:(W.putObj l o).heap.size=W.heap.size:=by simp
 have E:∀b,b≠l->(W.putObj l o).heap[b]? =W.heap[b]? :=λb hb=>World.putObj_heap_other hb
 have u:∀b,b<W.heap.size->¬Xc b->(W.putObj l o).heap[b]? =W.heap[b]? :=λb _ V=>E b λe=>V (e▸z)
 refine⟨⟨Xc,βc,I,A.turn (zDc sz.symm) u,λt=>(M t).evo (UU A (zDc sz.symm) u),R.turn A sz u (λb hb=>E b λe=>by omega) Z Z Z,λi hi=>absurd hi (hT i),G,S,(λh=>by rw[B]at h;cases h),U,λb hb=>?_⟩,Y,gs,hl⟩
 grind
def rfQ (Ks:List Nat) (h':List (Nat×xV)) (p:Prop) (Q:Exit->St->Prop) (T:List (Nat×AV)):Exit->St->Prop
 | .normal,s=>wZ Ks (zD s.h)=h'/\p
 | .ret,s=>Q .ret ⟨T,wZ Ks (zD s.h)⟩
 | .exit id,s=>Q (.exit id) ⟨T,wZ Ks (zD s.h)⟩
 |_,_=>False
theorem qR {g:Operand} {ps:Array Tmp} {assign:Code} {f:Nat} {B:List AV} {xs:List (List AV)} (hF:F.ro=none/\F.it=false) (bd:UQ P f B h0 xs) (hg:yX (zK st.tm) g= .fn f B)
 (Ks ts:List Nat) (b1:K0.all (Ks.contains ·)=true) (ba:Ks.all (λk=>!(xB h0).contains k)=true) (cd:(xB h0).map (zD st.h)=(xB h0).map (zD h0)) (b6:h0.all (λp=>my (xB h0) p.2)=true)
 (a8:(jS B).all ((xB h0).contains ·)=true) (ci:ts.all (λt=>(zK st.tm t).refs.all (λk=>!(xB h0).contains k))=true)
 (ce:Ks.all (λk=>match zD st.h k with|some (.box cs)=>(jS cs).all (λj=>!(xB h0).contains j)|_=>true)=true) (cc:ts.all (λt=>!(Nat.beq t GS))=true) (ch:ps.toList.all (Nat.blt · m)=true) (cg:∀(i:Nat) ys,xs[i]? =some ys->ps.size=ln ys)
 (H:Nat->List (Nat×xV)) (I:Nat->Prop) {T:List (Nat×AV)} (e0:restr Ks ts st=⟨T,H 0⟩) (i0:I 0)
 (a4:∀(i:Nat) ys l,xs[i]? =some ys->I i->∀(F1:Fr (xB (H i))),F1.it=true->F1.ro=some l->uG P F1 m assign ⟨mf ps.toList ys T,H i⟩ (λe s=>e= .normal/\∀(F2:Fr (xB s.h)),F2.it=true->F2.ro=some l->uG P F2 m body s (rfQ Ks (H (i+1)) (I (i+1)) Q T)))
 (done:I (ln xs)->Q .normal ⟨T,H (ln xs)⟩) (cf:R6 st.h=true:=by rfl):uG P F m (.rangeFunc g ps assign body) st Q:=⟨λa w R=>by
 rw[hF.1]
 change Code.wpIn Fence.wide 0 P _ _ a w
 obtain⟨⟨X0,β,hX,S,Ht,KK,_,bs,ca,_,b5,a7⟩,nd,gs,hl⟩:=R
 have hK:∀k,k∈xB h0->zD st.h k=zD h0 k:=λk hk=>by
  obtain⟨i,hi⟩:=zEo hk;have:=zBq (·[i]?) cd;simpa [hi]using this
 have Y:∀k e,zD h0 k=some e->my (xB h0) e=true:=λk e hk=>by
  obtain⟨p,hp,U⟩:=cD hk;have:=zBk.1 b6 p hp;rw[U]at this;exact this
 have A:∀k,k∈xB h0->¬k∈Ks:=λk h1 h2=>by
  have:=zBk.1 ba k h2;simp at this;exact this h1
 have bb:∀k cs,k∈Ks->zD st.h k=some (.box cs)->∀j,j∈jS cs->¬j∈xB h0:=λk cs hk U j hj h1=>by
  have:=zBk.1 ce k hk;rw[U]at this;have:=zBk.1 this j hj;simp at this;exact this h1
 have ag:∀k,k∈K0->k∈Ks:=λk hk=>by simpa using zBk.1 b1 k hk
 have co:T=ts.map λt=>(t,wY Ks (zD st.h) (zK st.tm t)):=by have:=zBq St.tm e0;exact this.symm
 have bz:wZ Ks (zD st.h)=H 0:=zBq St.h e0
 have G:∀t,zK T t=if t∈ts then wY Ks (zD st.h) (zK st.tm t)else .bot:=λt=>by
  rw[<-gG Ks ts st t,e0]
 have b3:∀t h',wY Ks h' (zK T t)=zK T t:=λt h'=>by
  rw[G];split
  .exact rm _ _ _ _
  .rfl
 have a6:∀i,zK T GS≠ .gh i:=λi=>by
  rw[G];split
  .rename_i h;have:=zBk.1 cc GS h;simp at this
  .intro h;cases h
 have az:=PZ Ht g;rw[hg]at az
 obtain⟨cv,cb,a9,b9⟩:∃cv:Array Value,a.eval g= .func (.func f) #[] cv/\cv.size=ln B/\∀(i:Nat) v,B[i]? =some v->yK w (xT X0 β) (zD st.h) β v (cv.getD i undef):=by
  generalize a.eval g=cx at az
  cases az with
  |fz _ _ hf=>cases hf
  |fn _ _ c hl hh=>exact⟨c,rfl,hl,hh⟩
 refine wpIn_rangeFunc (F:=Fence.wide) (n:=0) λfn _=>?_
 generalize M:({state:= .ready,pending:=none,fn:=fn,tmps:=a.tmps,params:=ps,assign:=assign,body:=body,defers:=w.heap.size}:Loop)=rec;obtain⟨E,V⟩:∃E,E=(w.alloc (.deferred (some []))).alloc (.loop rec):=⟨_,rfl⟩;have cq:E.heap.size=w.heap.size+2:=by rw[V];simp
 have ap:∀b,b<w.heap.size->E.heap[b]? =w.heap[b]? :=λb hb=>by rw[V,RH _ _ b qD,RH _ _ b hb]
 have b4:E.heap[w.heap.size]? =some (.deferred (some [])):=by rw[V,RH _ _ _ zV];exact World.alloc_heap_new _ _
 have bf:E.heap[w.heap.size+1]? =some (.loop rec):=by
  rw[V];have:=World.alloc_heap_new (w.alloc (.deferred (some []))) (.loop rec);simpa using this
 have u:E.os=w.os/\E.tape=w.tape/\E.output=w.output:=by rw[V];exact⟨rfl,rfl,rfl⟩
 have ac:(Instr.enterLoop fn a.tmps ps assign body none).run P w= .ok (w.heap.size+1,[{target:= .collected w.heap.size,args:= #[]}]) E:=by
  rw[V,<-M];exact run_enterLoop_outer fn a.tmps ps assign body
 generalize cp:w.heap.size+1=l at bf ac
 let a':Act:={a with defers:=[{target:= .collected w.heap.size,args:= #[]}]++a.defers}
 let J:Nat->(Nat->Prop)->(Nat->Prop)->World->Prop:=λi O X W=>(i<=ln xs/\I i/\RG F T a' l (H i) rec O X W)\/
  (ln xs<i/\∃h' x c,sm x c/\Q x ⟨T,h'⟩/\RG F T a' l h' {rec with state:= .done,pending:=some c} O X W)
 have bl:∀i O X w w' O',J i O X w->w.heap.size<=w'.heap.size->(∀b,b<w.heap.size->¬O b->w'.heap[b]? =w.heap[b]?)->(∀b,O' b->O b\/w.heap.size<=b)->(∀b,O' b->b<w'.heap.size)->w'.os=w.os->w'.tape=w.tape->w'.output=w.output->J i O' X w':=by
  rintro i O X v v' O' (⟨h1,hI,h2⟩|⟨h1,h',x,c,h2,h3,h4⟩) q1 q2 q3 q4 q5 q6 q7
  .exact .inl ⟨h1,hI,h2.stab q1 q2 q3 q4 q5 q6 q7⟩
  .exact .inr ⟨h1,h',x,c,h2,h3,h4.stab q1 q2 q3 q4 q5 q6 q7⟩
 let O0:Nat->Prop:=Mh (βr (xB h0) β)
 let Xa:Nat->Prop:=λb=>X0 b\/∃k n,k∈xB h0/\(b,n)∈β k
 let Xc:Nat->Prop:=λb=>Xa b\/b=w.heap.size\/b=l
 let Xi:Nat->Prop:=λb=>X0 b\/Mh (βr Ks β) b
 let X1:Nat->Prop:=λb=>Xi b\/b=w.heap.size\/b=l
 have ar:∀b,O0 b->b<w.heap.size:=λb ⟨k,n,z⟩=>S.lt b (.inr ⟨k,n,(kJ z).2⟩)
 have av:∀b,Xa b->b<w.heap.size:=λb hb=>hb.elim (λh=>S.lt b (.inl h)) λ⟨k,n,_,z⟩=>S.lt b (.inr ⟨k,n,z⟩)
 have ax:∀b,Xi b->b<w.heap.size:=λb hb=>hb.elim (λh=>S.lt b (.inl h)) λ⟨k,n,z⟩=>S.lt b (.inr ⟨k,n,(kJ z).2⟩)
 have b2:∀b,O0 b->¬X0 b:=λb ⟨k,n,z⟩ hx=>S.free k b n (kJ z).2 hx
 obtain⟨H1,cj⟩:=S.restrX (X':=Xa) Ks (xB h0) (λb hb=>hb) A (om cf) bb
 have Q1:aZ Xa Xc w E:=⟨by omega,λb hb hx=>⟨ap b hb,λh=>by
  rcases h with h|h|h
  .exact hx h
  .omega
  .omega⟩,λb hb=> .inl hb,λb hb=>by
  rcases hb with h|h|h
  .have:=av b h;omega
  .omega
  .omega,u.1,u.2.1,u.2.2⟩
 obtain⟨H2,ck⟩:=zAl (Xc:=Xi) S hK Y (λb hb=>by
  rcases hb with h|⟨k,n,z⟩
  .exact .inl h
  .obtain⟨hk,z⟩:=kJ z
   exact .inr ⟨k,n,λh=>A k h hk,z⟩)
 have Q2:aZ Xi X1 w E:=⟨by omega,λb hb hx=>⟨ap b hb,λh=>by
  rcases h with h|h|h
  .exact hx h
  .omega
  .omega⟩,λb hb=> .inl hb,λb hb=>by
  rcases hb with h|h|h
  .have:=ax b h;omega
  .omega
  .omega,u.1,u.2.1,u.2.2⟩
 have C0:RG F T a' l (H 0) rec O0 X1 E:=by
  rw[<-bz];refine⟨⟨Xc,βr Ks β,⟨λb hb=> .inl (.inl (hX.1 b hb)),λb hb=>?_⟩,Q1.hok H1,λt=>?_,(KK.restr Ks ag).grow H1 (by omega) ap u.1 u.2.1 u.2.2,⟨w.heap.size::bs,?_,?_,λb hb=>?_⟩,λb hb=>?_,λb hb=> .inl (.inr hb),λb hb=>?_,.inr (.inr Z)⟩,.inr (.inr Z),λh=>?_,bf,?_,Q2.lt,λk=>?_⟩
  .rcases hb with(h|⟨k,n,hk,z⟩)|h|h
   .exact hX.2 b h
   .rcases KK.own k b n z with⟨k',n',h⟩|h
    .exfalso;obtain⟨a3,_,a1⟩:=KK.pas k' b n' h;have:=S.disj k k' b n a3 z a1;subst this;exact A k hk (ag k (F.hK k b n' h))
    .exact .inr h
   all_goals(exact .inr (by have:=KK.size;omega))
  .rw[G];split
   .rename_i ht
    exact(cj _ _ (λj hj h1=>by
     have:=zBk.1 ci t ht;have:=zBk.1 this j hj;simp at this
     exact this h1) (Ht t)).evo (Q1.evo H1)
   .exact .fz _ _ (.bot _)
  .show [_]++a.defers=_
   rw[ca];rfl
  .refine List.nodup_cons.2 ⟨λh=>?_,b5⟩;have:=S.lt _ (.inl (a7 _ h).1);omega
  .rcases zCt.1 hb with rfl|hb
   .exact⟨.inr (.inl Z),KK.size,b4,λh=>by have:=ar _ h;omega⟩
   .obtain⟨q1,q2,q3⟩:=a7 b hb;exact⟨.inl (.inl q1),q2,by rw[ap b (S.lt b (.inl q1))];exact q3,λh=>b2 b h q1⟩
  .obtain⟨k,n,z⟩:=hb;obtain⟨hk,z⟩:=kJ z;refine⟨.inl (.inr ⟨k,n,hk,z⟩),?_,λh=>S.free k b n z (hX.1 b h)⟩
   rcases KK.own k b n z with⟨k',n',h⟩|h
   .exfalso;obtain⟨a3,_,a1⟩:=KK.pas k' b n' h;have:=S.disj k k' b n a3 z a1;subst this;exact A k hk (ag k (F.hK k b n' h))
   .exact h
  .rcases hb with(h|⟨k,n,hk,z⟩)|h|h
   .exact .inl (.inl (.inl h))
   .exact .inr ⟨k,n,by rw[XX hk];exact z⟩
   .exact .inl (.inr (.inl h))
   .exact .inl (.inr (.inr h))
  .have:=ar _ h;omega
  .have:=KK.size;omega
  .rw[wH];split
   .intro h;rw[zBp]at h;obtain⟨e,U,h2⟩:=h
    cases e with
    |dead=>exact nd k U
    |box cs=>cases h2
    |obj cs=>cases h2
    |arr sz xs fl=>obtain⟨cr,cn,h4,_⟩:=gV Ks (zD st.h) sz xs fl;rw[h4]at h2;cases h2
   .intro h;cases h
 let Fi:Fr (xB h0):=⟨X1,E,βr (xB h0) β,zD h0,λk b n z=>(kJ z).1,λk e U=>uJ U,none,true,X1,J,bl⟩
 have a5:=bd.sim l cv Fi ⟨rfl,λ_ h=>h⟩ rfl Z a9 (Q2.hok H2) (λi v hv=>(ck v _ (b9 i v hv) (λk hk=>by
   have:=zBk.1 a8 k (wV hv hk)
   simpa using this)).evo (Q2.evo H2)) (.inl ⟨zBn _,i0,C0⟩) (by
  intro i ys X O W cs a2 hj b7 bk;have cm:i<ln xs:=(zBw.1 a2).1
  rcases hj with⟨_,hI,C⟩|⟨h,_⟩
  case inr=>omega
  have hd:=C.round (P:=P) (m:=m) (Ks:=Ks) (ys:=ys) (cs:=cs) (Rq:=λe h'=>(e= .normal/\h'=H (i+1)/\I (i+1))\/((e= .ret\/∃id,e= .exit id)/\Q e ⟨T,h'⟩)) (λp hp=>by simpa using zBk.1 ch p hp) (show a'.tmps.size=m from hl) gs M.symm b3 ag b7 (cg i ys a2) bk
   (λe h L=>by
    rcases L with⟨rfl,_⟩|⟨h|h,_⟩
    .exact .inl Z
    .exact .inr (.inl h)
    .exact .inr (.inr h)) (λF1 f1 f2=>(a4 i ys l a2 hI F1 f1 f2).mono λe s ⟨U,hb⟩=>⟨U,λF2 g1 g2=>(hb F2 g1 g2).mono λe' s' L=>by
     cases e' with
     |normal=>exact .inl ⟨rfl,L⟩
     |ret=>exact .inr ⟨.inl Z,L⟩
     |exit id=>exact .inr ⟨.inr ⟨id,rfl⟩,L⟩
     |goto t=>exact L.elim
     |panic c=>exact L.elim
     |outgrown=>exact L.elim⟩)
  obtain⟨bx,cl,br,bu,h1,h2⟩:=hd;refine⟨bx,cl,br,bu,h1,RoundIn.mono h2 ?_⟩;rintro e W' (⟨U,X',q,h',L,C'⟩|⟨U,X',q,h',x,c,hx,L,C'⟩)
  .refine .inl ⟨U,X',q,.inl ⟨by omega,?_⟩⟩
   rcases L with⟨_,rfl,b0⟩|⟨h|⟨id,h⟩,_⟩
   .exact⟨b0,C'⟩
   all_goals cases h
  .refine .inr ⟨U,X',q,.inr ⟨by omega,h',x,c,hx,?_,C'⟩⟩
   rcases L with⟨h,_⟩|⟨_,h⟩
   .rcases hx with⟨rfl,_⟩|⟨id,rfl,_⟩<;>cases h
   .exact h)
 refine⟨l,[{target:= .collected w.heap.size,args:= #[]}],E,{target:= .fn (.func f) cv,args:= #[.func (.yield l) #[] #[]]},E,f, #[.func (.yield l) #[] #[]]++cv,E,ac,?_,λ_ _=>trivial,(by simp only[invoke];exact bd.able _ _),λh=>by simp[Fence.wide]at h,?_⟩
 .unfold resolve rangeCall;dsimp only;rw[cb];simp[Deferred.ofValue,Act.eval]
 .refine callsIn_wide.2 (Calls.mono a5 ?_);rintro e w' ⟨⟨v,rfl⟩,i,O,X,hj,hi⟩;have au:a'.tmps.size=m:=hl
  rcases hj with⟨h1,hI,C⟩|⟨h1,h',x,c,hx,L,C⟩
  .obtain rfl:i=ln xs:=by omega
   refine⟨_,_,run_endLoop C.lh (by rw[<-M];intro h;cases h),?_⟩;rw[show rec.pending=none by rw[<-M]];exact⟨_,done hI,C.rel hF.2 a6 gs au _⟩
  .refine⟨_,_,run_endLoop C.lh (by intro h;cases h),?_⟩;have R:=C.rel hF.2 a6 gs au (.loop {({rec with state:= .done,pending:=some c}:Loop)with state:= .exhausted})
   rcases hx with⟨rfl,rfl⟩|⟨id,rfl,rfl⟩
   .exact wpIn_ret ⟨_,L,R⟩
   .exact wpIn_exit ⟨_,L,R⟩⟩
end
def gy (n:Int):AV:= .s (.int .u8 n)
def Qh (a b:List Int):Bool:=(strOfNums a).toList==(strOfNums b).toList
def BY (l:List Int):Prop:=∀x∈l,0<=x/\x<256
def NZ (a:List Int):(strOfNums a).toList=a.map λn=>UInt8.ofNat n.toNat:=by
 rw[ByteArray.toList_eq];rfl
theorem Oc (a b:List Int):Qh a b=decide ((a.map λn=>UInt8.ofNat n.toNat)=b.map λn=>UInt8.ofNat n.toNat):=by
 unfold Qh;rw[NZ,NZ]
 grind
def wR (a:List Int):Qh a a=true:=by rw[Oc];simp
def im (a b:List Int):Qh a b=Qh b a:=by rw[Oc,Oc];simp[eq_comm]
def jF (m n:Int):Int:=IntKind.i64.wrap (BitVec.ofInt IntKind.i64.bits m &&& BitVec.ofInt IntKind.i64.bits n).toNat
def Yj (m n:Int):Int:=IntKind.i64.wrap (BitVec.ofInt IntKind.i64.bits m ||| BitVec.ofInt IntKind.i64.bits n).toNat
def U2 (m n:Int):Int:=IntKind.i64.wrap (BitVec.ofInt IntKind.i64.bits m &&& ~~~BitVec.ofInt IntKind.i64.bits n).toNat
section
variable {P:Program} {TT:List TI} {tm:List (Nat×AV)} {h:List (Nat×xV)} {tx ty:Nat} {x y:Operand}
def Zm {n:Int} (u:yX (zK tm) x= .s (.int .i64 m)) (z:yX (zK tm) y= .s (.int .i64 n)):vA P ⟨tm,h⟩ (.binOp .and tx x y ty) (.s (.int .i64 (jF m n))) [] [] []:=OC u z
def aL {n:Int} (u:yX (zK tm) x= .s (.int .i64 m)) (z:yX (zK tm) y= .s (.int .i64 n)):vA P ⟨tm,h⟩ (.binOp .or tx x y ty) (.s (.int .i64 (Yj m n))) [] [] []:=FC u z
def Ym {n:Int} (u:yX (zK tm) x= .s (.int .i64 m)) (z:yX (zK tm) y= .s (.int .i64 n)):vA P ⟨tm,h⟩ (.binOp .andNot tx x y ty) (.s (.int .i64 (U2 m n))) [] [] []:=Dc u z
def JO {a:List Int} (u:yX (zK tm) x= .s (.string (strOfNums a))) (z:yX (zK tm) y= .s (.string (strOfNums b))):vA P ⟨tm,h⟩ (.binOp .eql tx x y ty) (.s (.bool (Qh a b))) [] [] []:=QJ u z (.inl ⟨rfl,rfl⟩)
def JP {a:List Int} (u:yX (zK tm) x= .s (.string (strOfNums a))) (z:yX (zK tm) y= .s (.string (strOfNums b))):vA P ⟨tm,h⟩ (.binOp .neq tx x y ty) (.s (.bool (!Qh a b))) [] [] []:=QJ u z (.inr ⟨rfl,rfl⟩)
def BI (O:uW P TT) {A u:Nat} {ts td:TI} {xs:List AV} {l:List Int} (hs:TT[A]? =some ts) (ac:ts.d= .slice e) (he:TT[e]? =some te) (Y:te.d= .int .u8) (hd:TT[u]? =some td) (W:td.d= .string)
 (hx:yX (zK tm) x= .sl nn xs) (hl:xs=l.map gy):vA P ⟨tm,h⟩ (.convert A u x) (.s (.string (strOfNums l))) [] [] []:=
 yZ λo X tm h w β a ho hg _ HH Ht=>by
  obtain⟨ap,av,ar,pos,I,L⟩:=o;dsimp only at ho;subst ho;have h1:=gZ Ht hg (x:=x) uO hx;obtain⟨_,u1,_,_,B,_,S,_⟩:=vR (O _ _ hs);obtain⟨_,u2,_,_,C,_,U,_⟩:=vR (O _ _ he);obtain⟨_,u3,_,_,E,_,V,_⟩:=vR (O _ _ hd);obtain rfl:=uE (S.symm.trans ac);obtain rfl:=MO (U.symm.trans Y);obtain rfl:=Eh (V.symm.trans W);subst hl;refine⟨.string (strOfNums l),?_,.fz _ _ (.s _)⟩
  have key:(convert A u (a.eval x)).run P w= .ok (.string (strOfNums l)) w:=by
   generalize a.eval x=cx at h1
   cases h1 with
   | fz _ _ hf=>
    generalize G:l.map gy=xs at hf
    cases hf with
    | nil b cap=>
     obtain rfl:l=[]:=by cases l with
      |nil=>rfl
      |cons z l=>simp at G
     cases b with
     |none=>exact run_convert_bytes_nil w A e B C 0 cap u E
     |some b=>
      rw[run_convert_bytes_string w A u e _ 0 cap B C E];simp[Conv.bytesToString,loadCells];rfl
    | nil1 b cap=>
     obtain rfl:l=[]:=by cases l with
      |nil=>rfl
      |cons z l=>simp at G
     rw[run_convert_bytes_string w A u e _ 0 cap B C E];simp[Conv.bytesToString,loadCells];rfl
    | sl _ _ b o sz cap f hx hL au hh=>
     subst G;have R:∀i,i<ln l->(l.map gy)[i]? =some (gy (l.getD i 0)):=λi hi=>by simp[pi,hi]
     have ag:sz=1:=by
      cases l with
      |nil=>exact absurd Z hx
      |cons z l=>exact(hL.wide 0 (gy z) Z).symm
     subst ag
     have:=run_convert_bytes_arg (P:=P) w A e B C b o (l.map gy).length cap l zV (λi hi=>by
      have hi':i<ln l:=by simpa using hi
      have h2:=hL.cell i 0 (by simpa using hi') (by omega);have M:=(hh i _ 0 (gy (l.getD i 0)) (R i hi') Z);rw[show o+i=o+i*1+0 by omega,h2];unfold gy at M;generalize f i 0=c at M;cases M
      rfl) u E
     exact this
  simp[execOp,key]
end
section
variable {P:Program} {TT:List TI} {K0:List Nat} {F:Fr K0} {m:Nat} {ops:Array Oper} {rest:List Oper} {Q:List FP->St->Prop} {tm:List (Nat×AV)} {h:List (Nat×xV)} {dr:Bool} {fs:List FP}
variable {ty:Nat} {pos:String} {after:Array Edge} {t:Nat}
def gU {lo hi u:Option Operand} (hk:yP P F m ops dr (⟨some t,.slice T x lo hi u,ty,pos,after,none⟩::rest) st fs Q):yP P F m ops dr (⟨some t,.slice T x lo hi u,ty,pos,after,none⟩::rest) st fs Q:=hk
def GT (z:uW P TT) {xs ys:List AV} {i:Int} (C:yX (zK tm) x= .sl nn xs) (hl:yX (zK tm) l= .s (.int k i)) (hT:TT[T]? =some ti) (hd:ti.d= .slice e) (A:TT[e]? =some te)
 (u:∀y,xs[0]? =some y->ln y.cells=te.size) (h0:0<=i) (h1:i<=ln xs) (E:xs.drop i.toNat=ys) (B:Nat.blt t m=true) (hk:yP P F m ops dr rest ⟨(t,.sl nn ys)::tm,h⟩ (⟨true,[],[]⟩::fs) Q):
  yP P F m ops dr (⟨some t,.slice T x (some l) none none,ty,pos,after,none⟩::rest) ⟨tm,h⟩ fs Q:=by
 have:=aR (P:=P) (st:=⟨tm,h⟩) (lo:=some l) (hi:=none) (l:=i.toNat) (r:=ln xs) z C hT hd A ⟨k,i,hl,by omega⟩ rfl (by omega) (zBb _) u;rw[show(xs.drop i.toNat).take (ln xs-i.toNat)=ys by rw[<-E];exact zBf zV]at this;exact wJ this B hk
def S2 (z:uW P TT) {xs ys:List AV} {i:Int} (C:yX (zK tm) x= .sl nn xs) (hl:yX (zK tm) l= .s (.int k i)) (hT:TT[T]? =some ti) (hd:ti.d= .slice e) (A:TT[e]? =some te)
 (u:∀y,xs[0]? =some y->ln y.cells=te.size) (h0:0<=i) (h1:i<=ln xs) (E:xs.take i.toNat=ys) (B:Nat.blt t m=true) (hk:yP P F m ops dr rest ⟨(t,.sl nn ys)::tm,h⟩ (⟨true,[],[]⟩::fs) Q):
  yP P F m ops dr (⟨some t,.slice T x none (some l) none,ty,pos,after,none⟩::rest) ⟨tm,h⟩ fs Q:=by
 have:=aR (P:=P) (st:=⟨tm,h⟩) (lo:=none) (hi:=some l) (l:=0) (r:=i.toNat) z C hT hd A Z ⟨k,i,hl,by omega⟩ (by omega) (by omega) u;rw[show(xs.drop 0).take (i.toNat-0)=ys by rw[<-E];rfl]at this;exact wJ this B hk
def ku (C:uW P TT) {A:Operand} {xs ys:List AV} {B:IntKind} {i j:Int} (I:yX (zK tm) x= .sl nn xs) (hl:yX (zK tm) l= .s (.int k i)) (u:yX (zK tm) A= .s (.int B j)) (hT:TT[T]? =some ti) (hd:ti.d= .slice e) (E:TT[e]? =some te)
 (z:∀y,xs[0]? =some y->ln y.cells=te.size) (h0:0<=i) (h1:i<=j) (h2:j<=ln xs) (L:(xs.drop i.toNat).take (j.toNat-i.toNat)=ys) (G:Nat.blt t m=true) (hk:yP P F m ops dr rest ⟨(t,.sl nn ys)::tm,h⟩ (⟨true,[],[]⟩::fs) Q):
  yP P F m ops dr (⟨some t,.slice T x (some l) (some A) none,ty,pos,after,none⟩::rest) ⟨tm,h⟩ fs Q:=by
 have:=aR (P:=P) (st:=⟨tm,h⟩) (lo:=some l) (hi:=some A) (l:=i.toNat) (r:=j.toNat) C I hT hd E ⟨k,i,hl,by omega⟩ ⟨B,j,u,by omega⟩ (by omega) (by omega) z;rw[L]at this;exact wJ this G hk
end
def iI (n:Int):AV:= .s (.int .i64 n)
def Zf (TT:List TI):Nat->List (Nat×Nat)->Bool
 |_,[]=>true
 | o,(p,t)::r=>Nat.beq p o&&((match TT[t]? with
  |some ti=>(match ti.d with
   | .int .i64=>true
   |_=>false)
  |none=>false)&&Zf TT (o+1) r)
def JQ {TT:List TI} (u:uW P TT) (z:TT[t]? =some ti) (hk:ti.d= .int .i64) (w:World) {cs:Array Value} {v:Value} (hv:cs[off]? =some v):(part t cs off).run P w= .ok v w:=by
 unfold part;simp[FB (u _ _ z) w,hk,TD.agg,hv]
theorem US {TT:List TI} (C:uW P TT) (d:Nat) (w:World) (xs ys:Array Value):∀(fs:List Field) (o:Nat) (ms ns:List Int),Zf TT o (fs.map λf=>(f.offset,f.type))=true->(fs.all λf=>f.name != "_")=true->ln ms=ln fs->ln ns=ln fs->
  (∀i,i<ln ms->xs[o+i]? =some (.int .i64 (ms.getD i 0)))->(∀i,i<ln ns->ys[o+i]? =some (.int .i64 (ns.getD i 0)))->(Op.eqFields (d+1) xs ys fs).run P w= .ok (ms==ns) w
 | [],o,ms,ns,_,_,h1,h2,_,_=>by
  obtain rfl:=zB5 h1;obtain rfl:=zB5 h2;rfl
 |f::fs,o,[],ns,_,_,h1,_,_,_=>by simp at h1
 |f::fs,o,m::ms,[],_,_,_,h2,_,_=>by simp at h2
 | f::fs,o,m::ms,n::ns,L,G,h1,h2,M,O=>by
  simp only[zCo,Zf,zBg]at L;simp only[zFq,zBg,zDa,zEa]at G;obtain⟨e1,B,e3⟩:=L;have e1:=zBz e1;split at B
  .rename_i ti z;split at B
   .rename_i hd;obtain⟨_,u,_,_,U,_,E,_⟩:=vR (C _ _ z);obtain rfl:=MO (E.symm.trans hd);have R:=JQ (off:=f.offset) C z hd w (cs:=xs) (v:= .int .i64 m) (by rw[e1];have:=M 0 zV;simpa using this);have S:=JQ (off:=f.offset) C z hd w (cs:=ys) (v:= .int .i64 n) (by rw[e1];have:=O 0 zV;simpa using this);have V:=US C d w xs ys fs (o+1) ms ns e3 (by simpa using G.2) ID IE (λi hi=>by have:=M (i+1) ML;rw[show o+1+i=o+(i+1) by omega];simpa using this) (λi hi=>by have:=O (i+1) ML;rw[show o+1+i=o+(i+1) by omega];simpa using this);have I:f.name≠ "_" :=G.1;simp only[Op.eqFields,I,zEa,zFo,zE8,Sem.run_bind,R,S,Result.andThen_ok,run_equalIn_int w d f.type .i64 .i64 m n U];by_cases A:m=n
    .subst A;simp[V]
    .simp[A]
   .cases B
  .cases B
theorem YW {TT:List TI} (hP:uW P TT) {tm:List (Nat×AV)} {h:List (Nat×xV)} {L:List (Nat×Nat)} {ms ns:List Int} {op:BinOp} {v:Bool} (hx:yX (zK tm) x= .agg (ms.map iI)) (hy:yX (zK tm) y= .agg (ns.map iI)) (hT:TT[T]? =some ti) (hd:ti.d= .str L) (ar:Zf TT 0 L=true)
 (S:Nat.beq (ln ms) (ln L)=true) (U:Nat.beq (ln ns) (ln L)=true) (az:P.stoodInHeld T=false) (hg:P.eqGuardType P.depth T=false) (av:((P.fieldsOf T).toList.all λf=>f.name != "_")=true) (ax:op= .eql/\v=(ms==ns)\/op= .neq/\v= !(ms==ns)):
  vA P ⟨tm,h⟩ (.binOp op T x y ty) (.s (.bool v)) [] [] []:=
 yZ λo X a4 hh w β a ho R _ HH Ht=>by
  obtain⟨a1,a3,a2,pos,W,Y⟩:=o;dsimp only at ho;subst ho;have h1:=gZ Ht R (x:=x) uO hx;have h2:=gZ Ht R (x:=y) uO hy;obtain⟨_,u,_,_,hu,_,ap,_⟩:=vR (hP _ _ hT);obtain⟨f,rfl,O⟩:=Fc (ap.symm.trans hd);have G:P.fieldsOf T=f:=by unfold Program.fieldsOf;rw[hu]
  have S:=zBz S;have U:=zBz U;have au:ln L=ln f.toList:=by rw[<-O];simp
  have z:∀(l:List Int) (c:Value),yK w (xT X β) hh β (.agg (l.map iI)) c->∃cs:Array Value,c= .agg cs/\∀i,i<ln l->cs[i]? =some (.int .i64 (l.getD i 0)):=λl c hc=>by
   have B:∀i,i<ln l->(l.map iI)[i]? =some (iI (l.getD i 0)):=λi hi=>by simp[pi,hi]
   cases hc with
   | fz _ _ hf=>
    cases hf with
    |agg _ cs hl _ I=>
     refine⟨cs,rfl,λi hi=>?_⟩;have:=I i _ (B i hi);have A:i<cs.size:=by rw[hl];simpa using hi
     unfold iI at this;have e:cs.getD i undef=cs[i]:=by simp[zB4,A]
     rw[e]at this;rw[zFg A];generalize cs[i]=c at this;cases this;rfl
   |agg _ cs hl _ I=>
    refine⟨cs,rfl,λi hi=>?_⟩;have:=I i _ (B i hi);have A:i<cs.size:=by rw[hl];simpa using hi
    have e:cs.getD i undef=cs[i]:=by simp[zB4,A]
    rw[e]at this;rw[zFg A];unfold iI at this;rw[this.s_inv]
  obtain⟨C,ex,ac⟩:=z ms _ h1;obtain⟨E,ey,ag⟩:=z ns _ h2;have V:=US hP 9998 w C E f.toList 0 ms ns (by rw[O];exact ar) (by rw[<-G];exact av) (by omega) (by omega) (λi hi=>by simpa using ac i hi) (λi hi=>by simpa using ag i hi)
  have M:(Op.equalIn 10000 T (.agg C) (.agg E)).run P w= .ok (ms==ns) w:=by
   rw[show(10000:Nat)=9999+1 from Z,run_equalIn_agg w 9999 T C E (by rw[G];exact hu) az,G];exact V
  refine⟨.bool v,?_,.fz _ _ (.s _)⟩
  rcases ax with⟨rfl,rfl⟩|⟨rfl,rfl⟩
  .simp[execOp,ex,ey,run_eqGuard_agg w _ T x y C E hg,run_eql_struct w T C E,M]
  .simp[execOp,ex,ey,run_eqGuard_agg w _ T x y C E hg,run_neq_struct w T C E,M]
theorem yK.offK {D D':Nat->Prop} {h':yT} {β':uP} (k:Nat) (E:∀b,D' b->D b) (hh:∀j,j≠k->h' j=h j) (hβ:∀j,j≠k->β' j=β j) {v:AV} {c:Value} (hv:yK w D h β v c):k∉v.refs->yK w D' h' β' v c:=by
 induction hv with
 |fz v c G=>exact λ_=> .fz v c (G.less E)
 |agg cs c hl h1 C A=>exact λhk=> .agg cs c hl h1 λi v hv=>A i v hv λz=>hk (wV hv z)
 |fn f u c hl C A=>exact λhk=> .fn f u c hl λi v hv=>A i v hv λz=>hk (wV hv z)
 |tup vs c hl C A=>exact λhk=> .tup vs c hl λi v hv=>A i v hv λz=>hk (wV hv z)
 |dref j off len c hk' h1=>exact λhk=> .dref j off len c (by rw[hh j (λe=>hk (by simp[AV.refs,e]))];exact hk') h1
 |dptr j i off c hk' h1=>exact λhk=> .dptr j i off c (by rw[hh j (λe=>hk (by simp[AV.refs,e]))];exact hk') h1
 |ref j off len sz xs st b n cap hk' hb B hc L=>
  intro hk;have hj:j≠k:=λe=>hk (by simp[AV.refs,e])
  exact .ref j off len sz xs st b n cap MM Qf B hc L
 |ref0 j off sz xs st a hk' B=>
  intro hk;have hj:j≠k:=λe=>hk (by simp[AV.refs,e])
  exact .ref0 j off sz xs st a MM B
 |pbox j off cs b n hk' hb=>
  intro hk;have hj:j≠k:=λe=>hk (by simp[AV.refs,e])
  exact .pbox j off cs b n MM Qf
 |parr j i off sz xs st b n hk' hb hi I=>
  intro hk;have hj:j≠k:=λe=>hk (by simp[AV.refs,e])
  exact .parr j i off sz xs st b n MM Qf hi I
def AV.isGh:AV->Bool
 | .gh _=>true
 |_=>false
variable {v v' xv:AV}{xs ys:List AV}
section
variable {P:Program} {K0:List Nat} {F:Fr K0} {m:Nat} {tm:List (Nat×AV)} {h:List (Nat×xV)}
def ju (k:Nat):xV->Bool
 | .box cs=>!(jS cs).contains k
 | .obj cs=>true
 | .arr _ xs u=>bif u.nest then !(jS xs).contains k else true
 | .dead=>true
theorem wL.compact (R:wL F m ⟨tm,h⟩ a w) (k:Nat) (ws:List Nat) (hk:zD h k=some (.arr sz xs ⟨sb,false⟩)) (I:K0.contains k=false) (a4:ws.map (zK tm)=ws.map λ_=> .ref k 0 (ln xs))
 (a3:tm.all (λp=>ws.contains p.1|| !p.2.refs.contains k)=true) (ar:h.all (λp=>ju k p.2)=true):wL F m ⟨tm,(k,.arr sz xs false)::h⟩ a w:=by
 obtain⟨⟨X,β,hX,H,Ht,G,hJ,hD⟩,nd,gs,hl⟩:=R;have hE:=H.ent k _ hk;obtain⟨e1,e2,e3,e4,e5,f,e6,e7,e8⟩:=hE
 let β':uP:=λj=>if j=k then(β k).take 1 else β j
 have z:∀j b n,(b,n)∈β' j->(b,n)∈β j:=λj b n u=>by
  grind
 have C:∀b,xT X β' b->xT X β b:=λb hd=>hd.imp id λ⟨j,n,u⟩=>⟨j,n,z j b n u⟩
 have B:∀j,j≠k->zD ((k,.arr sz xs false)::h) j=zD h j:=λj hj=>by rw[xK,Os hj]
 have L:zD ((k,.arr sz xs false)::h) k=some (.arr sz xs false):=by rw[xK,zA5 Z]
 have A:∀j,j≠k->β' j=β j:=λj hj=>by dsimp only[β'];rw[Os hj]
 have Y:β' k=(β k).take 1:=by dsimp only[β'];rw[zA5 Z]
 have ag:∀c,yK w (xT X β) (zD h) β (.ref k 0 (ln xs)) c->yK w (xT X β') (zD ((k,.arr sz xs false)::h)) β' (.ref k 0 (ln xs)) c:=λc hc=>by
  generalize hn:ln xs=n at hc
  cases hc with
  |fz _ _ hf=>cases hf
  |dref _ _ _ _ hd _=>exact absurd hd (nd k)
  | ref _ _ _ ac ap st' b n' cap U hb au ax a2=>
   rw[hk]at U;cases U;refine .ref k 0 n sz xs false b n' cap L ?_ au ax a2;rw[Y]
   cases hbk:β k with
   |nil=>rw[hbk]at hb;simp at hb
   |cons p r=>
    rw[hbk]at hb;obtain⟨b0,n0⟩:=p;obtain⟨_,_,g3⟩:=e5 b0 n0 r hbk
    rcases zCt.1 hb with h1|h1
    .rw[h1];simp
    .exfalso;have:=g3 b n' h1;omega
  |ref0 _ _ ac ap st' ad U au=>exact .ref0 k 0 sz xs false ad L (zBn _)
 have av:∀t,yK w (xT X β') (zD ((k,.arr sz xs false)::h)) β' (zK tm t) (a.eval (.tmp t)):=λt=>by
  by_cases hw:t∈ws
  .obtain⟨i,hi⟩:=zEo hw;have e:=zBq (·[i]?) a4;simp only[zBe,hi,zC0,zCu]at e;have:=Ht t;dsimp only at this;rw[e]at this⊢;exact ag _ this
  .refine(Ht t).offK k C B A ?_;dsimp only;intro u
   have key:∀(l:List (Nat×AV)),l.all (λp=>ws.contains p.1|| !p.2.refs.contains k)=true->k∈(zK l t).refs->False:=λl=>by
    induction l with
    |nil=>intro _ u;simp[zK,AV.refs]at u
    | cons p r ih=>
     obtain⟨j,v⟩:=p;intro hl u;rw[xF]at u;simp only[zFq,zBg]at hl;split at u
     .rename_i e;subst e;have h1:=hl.1;simp only[zDi,zDu,zDo,zE3]at h1
      rcases h1 with h1|h1
      .exact hw h1
      .exact h1 (by simpa using u)
     .exact ih hl.2 u
   exact key tm a3 u
 have H':jM X (zD ((k,.arr sz xs false)::h)) β' w:=by
  refine⟨λj e E=>?_,λj hj=>?_,λj j' b n n' h1 h2=>H.disj j j' b n n' (z _ _ _ h1) (z _ _ _ h2),λj b n u=>H.free j b n (z _ _ _ u),λb hd=>H.lt b (C b hd)⟩
  .by_cases hj:j=k
   .subst hj;rw[L]at E;cases E;refine⟨e1,e2,λO=>?_,e4,λb n r M=>?_,f,.ofF λi x l v O hv=>(e6.toF Z i x l v O hv).less C,e7,λb n u=>e8 b n (z _ _ _ u)⟩
    .rw[Y];have:=e3 O
     cases hbk:β j with
     |nil=>exact absurd hbk this
     |cons p r=>simp
    .rw[Y]at M
     cases hbk:β j with
     |nil=>rw[hbk]at M;simp at M
     |cons p r'=>
      rw[hbk]at M;simp only[List.take_succ_cons,zEm,List.cons.injEq]at M;obtain⟨hp,M⟩:=M;subst M;rw[hp]at hbk;obtain⟨g1,_,_⟩:=e5 b n r' hbk;exact⟨g1,λ_ b' n' u=>by simp at u,λb' n' u=>by simp at u⟩
   .rw[B j hj]at E;have hE:=H.ent j e E
    cases e with
    |dead=>exact absurd E (nd j)
    |box cs=>
     obtain⟨b,c,el,g1,g2,g3,g4,g5⟩:=hE;refine⟨b,c,el,by rw[A j hj];exact g1,g2,g3,g4,λi v hv=>(g5 i v hv).offK k C B A λu=>?_⟩;obtain⟨p,hp,W⟩:=cD E;have:=zBk.1 ar p hp;rw[W]at this;have V:=wV hv u;simp only[ju,zDo,zE3]at this;exact this (by simpa using V)
    |obj cs=>
     exact⟨by rw[A j hj];exact hE.1,hE.2⟩
    | arr ac ap st'=>
     obtain⟨g1,g2,g3,g4,g5,f',g6,g7,g8⟩:=hE;refine⟨g1,g2,by rw[A j hj];exact g3,g4,by rw[A j hj];exact g5,f',λi x l v O hv=>?_,g7,by rw[A j hj];exact g8⟩
     cases hn:st'.nest with
     |false=>exact⟨.fz _ _ ((g6.toF hn i x l v O hv).less C),λ_=>(g6.toF hn i x l v O hv).less C⟩
     |true=>
      refine⟨(g6.toV i x l v O hv).offK k C B A λu=>?_,λh0=>by cases h0⟩;obtain⟨p,hp,W⟩:=cD E;have:=zBk.1 ar p hp;rw[W]at this;simp only[ju,hn,zCm]at this;have V:=wV O (VD hv u);simp only[zDo,zE3]at this;exact this (by simpa using V)
  .rw[xK]at hj;split at hj
   .cases hj
   .rename_i a1;rw[A j a1];exact H.off j hj
 have az:∀b n,(b,n)∉F.β0 k:=λb n u=>by
  have:=F.hK k b n u;simp only[zE3]at I;exact I Pf
 refine⟨⟨X,β',hX,H',av,⟨λj e E=>?_,G.size,G.keep,λj b n u=>G.own j b n (z _ _ _ u),λj b n u=>?_,G.bs,G.os,G.tape,G.output⟩,λi hi=>?_,hD⟩,λj=>?_,gs,hl⟩
 .have hj:j≠k:=λe'=>by
   subst e';have:=F.hh j e E;simp only[zE3]at I;exact I Pf
  have:=G.knd j e E
  cases e with
  |dead=>exact this
  |box cs=>obtain⟨S,h2⟩:=this;exact⟨S,by dsimp only;rw[B j hj];exact h2⟩
  |obj cs=>obtain⟨S,h2⟩:=this;exact⟨S,by dsimp only;rw[B j hj];exact h2⟩
  |arr ac ap a7=>obtain⟨a6,a5,h2,h3⟩:=this;exact⟨a6,a5,by dsimp only;rw[B j hj];exact h2,h3⟩
 .have hj:j≠k:=λe'=>by subst e';exact az b n u
  rw[A j hj];exact G.pas j b n u
 .exact F.Jst i _ X w w _ (hJ i hi) (zBb _) (λ_ _ _=>rfl) (λb ⟨j,n,u⟩=> .inl ⟨j,n,z _ _ _ u⟩) (λb ⟨j,n,u⟩=>H.lt b (.inr ⟨j,n,z _ _ _ u⟩)) Z Z Z
 .dsimp only;by_cases hj:j=k
  .subst hj;rw[L];intro hd;cases hd
  .rw[B j hj];exact nd j
theorem wL.flag (R:wL F m ⟨tm,h⟩ a w) (k:Nat) {st:Fl} (A:Fl) (q1:A.stale=false->st.stale=false) (q2:A.nest=false->st.nest=false) (hk:zD h k=some (.arr sz xs st)):wL F m ⟨tm,(k,.arr sz xs A)::h⟩ a w:=by
 obtain⟨⟨X,β,hX,H,Ht,C,hJ,hD⟩,nd,gs,hl⟩:=R;have z:∀j,j≠k->zD ((k,.arr sz xs A)::h) j=zD h j:=λj hj=>by rw[xK,Os hj]
 have I:zD ((k,.arr sz xs A)::h) k=some (.arr sz xs A):=by rw[xK,zA5 Z]
 have E:EZ w (xT X β) (zD h) β w (xT X β) (zD ((k,.arr sz xs A)::h)) β:=⟨zBb _,λb _ hd=>⟨rfl,hd⟩,λ_ _ _ _=>rfl,λj e B=>by
  by_cases hj:j=k
  .subst hj;rw[hk]at B;cases B;exact .inr ⟨⟨xs,A,I,zBb _⟩,λb n hm=>⟨n,zBb _,hm⟩⟩
  .have:=jB (zD h) β j e B
   rcases this with h1|h1
   .exact .inl (by rw[z j hj];exact h1)
   .refine .inr ?_
    cases e with
    |dead=>exact h1
    |box cs=>obtain⟨⟨u,h2⟩,G⟩:=h1;exact⟨⟨u,by rw[z j hj];exact h2⟩,G⟩
    |obj cs=>obtain⟨⟨u,h2⟩,G⟩:=h1;exact⟨⟨u,by rw[z j hj];exact h2⟩,G⟩
    |arr M O st'=>obtain⟨⟨x2,s2,h2,G⟩,h4⟩:=h1;exact⟨⟨x2,s2,by rw[z j hj];exact h2,G⟩,h4⟩⟩
 have H':jM X (zD ((k,.arr sz xs A)::h)) β w:=by
  refine⟨λj e B=>?_,λj hj=>?_,H.disj,H.free,H.lt⟩
  .by_cases hj:j=k
   .subst hj;rw[I]at B;cases B;obtain⟨e1,e2,e3,e4,U,f,Y,e7⟩:=H.ent j _ hk;exact⟨e1,e2,e3,e4,λb n r V=>⟨(U b n r V).1,λh=>(U b n r V).2.1 (q1 h),(U b n r V).2.2⟩,f,λi x l v hx hv=>⟨(Y.toV i x l v hx hv).evo E,λh=>(Y.toF (q2 h) i x l v hx hv).evo E.size E.fz⟩,e7⟩
   .rw[z j hj]at B;exact(H.ent j e B).evo E Z λ_ _ _=>rfl
  .rw[xK]at hj;split at hj
   .cases hj
   .exact H.off j hj
 refine⟨⟨X,β,hX,H',λt=>(Ht t).evo E,⟨λj e B=>?_,C.size,C.keep,C.own,C.pas,C.bs,C.os,C.tape,C.output⟩,hJ,hD⟩,λj=>?_,gs,hl⟩
 .have:=C.knd j e B;by_cases hj:j=k
  .subst hj
   cases e with
   |dead=>exact this
   |box cs=>obtain⟨u,h2⟩:=this;(try dsimp only at h2);rw[hk]at h2;cases h2
   |obj cs=>obtain⟨u,h2⟩:=this;(try dsimp only at h2);rw[hk]at h2;cases h2
   |arr M O W=>obtain⟨S,L,h2,G⟩:=this;(try dsimp only at h2);rw[hk]at h2;cases h2;exact⟨xs,A,I,G⟩
  .cases e with
   |dead=>exact this
   |box cs=>obtain⟨u,h2⟩:=this;exact⟨u,by dsimp only;rw[z j hj];exact h2⟩
   |obj cs=>obtain⟨u,h2⟩:=this;exact⟨u,by dsimp only;rw[z j hj];exact h2⟩
   |arr M O W=>obtain⟨S,L,h2,G⟩:=this;exact⟨S,L,by dsimp only;rw[z j hj];exact h2,G⟩
 all_goals grind
def vQ (k:Nat) (hk:zD h k=some (.arr sz xs ⟨sb,false⟩)) (u:uG P F m c ⟨tm,(k,.arr sz xs true)::h⟩ Q):uG P F m c ⟨tm,h⟩ Q:=
 ⟨λa w R=>u.run a w (R.flag k true (λh=>by cases h) (λ_=>rfl) hk)⟩
def BJ (k:Nat) (hk:zD h k=some (.arr sz xs ⟨sb,false⟩)) (u:uG P F m c ⟨tm,(k,.arr sz xs ⟨sb,true⟩)::h⟩ Q):uG P F m c ⟨tm,h⟩ Q:=
 ⟨λa w R=>u.run a w (R.flag (st:=⟨sb,false⟩) k ⟨sb,true⟩ (λh=>h) (λh=>Bool.noConfusion h) hk)⟩
theorem wL.wkT (R:wL F m ⟨tm,h⟩ a w) (t:Nat) (hv:zK tm t=v) (G:ZG v=v') (I:∀i,v'≠ .gh i):wL F m ⟨(t,v')::tm,h⟩ a w:=by
 obtain⟨⟨X,β,B,H,u,z,E,A⟩,C,gs,hl⟩:=R;refine⟨⟨X,β,B,H,λj=>?_,z,λi hi=>?_,A⟩,C,gs,hl⟩
 .rw[xF];split
  .rename_i hj;subst hj;have:=(u j).wk
   grind
  .exact u j
 all_goals grind [wL,zK,ZG]
def ZR {u:Array Oper} {l:List Oper} {fs:List FP} {Q:List FP->St->Prop} (t:Nat) (hv:zK tm t=v) (A:ZG v=v') (z:v'.isGh=false) (hk:yP P F m u false l ⟨(t,v')::tm,h⟩ fs Q):yP P F m u false l ⟨tm,h⟩ fs Q:=
 ⟨λa w R=>hk.run a w (R.wkT t hv A λi hi=>by rw[hi]at z;cases z)⟩
def Xm (t:Nat) (hv:zK tm t=v) (z:ZG v=v') (u:v'.isGh=false) (hk:uG P F m c ⟨(t,v')::tm,h⟩ Q):uG P F m c ⟨tm,h⟩ Q:=
 ⟨λa w R=>hk.run a w (R.wkT t hv z λi hi=>by rw[hi]at u;cases u)⟩
def kF (k:Nat) (u:List Nat) (hk:zD h k=some (.arr sz xs ⟨sb,false⟩)) (z:K0.contains k=false) (C:u.map (zK tm)=u.map λ_=> .ref k 0 (ln xs))
 (B:tm.all (λp=>u.contains p.1|| !p.2.refs.contains k)=true) (A:h.all (λp=>ju k p.2)=true) (E:uG P F m c ⟨tm,(k,.arr sz xs false)::h⟩ Q):uG P F m c ⟨tm,h⟩ Q:=
 ⟨λa w R=>E.run a w (R.compact k u hk z C B A)⟩
end
def p2 (n:Int):Int:=2 ^ n.toNat
def vX (m n:Int):Int:=m.fdiv (2 ^ n.toNat)
theorem BK (n:Int) (h:n<=40):1<=p2 n/\p2 n<=1099511627776:=by
 unfold p2;have h1:(2:Int) ^ n.toNat=((2 ^ n.toNat:Nat):Int):=by simp
 have h2:2 ^ n.toNat<=2 ^ 40:=zEz (by omega) (by omega)
 grind
section
variable {P:Program} {tm:List (Nat×AV)} {h:List (Nat×xV)} {tx ty:Nat} {x y:Operand}
def Wm {A:IntKind} {n:Int} (u:yX (zK tm) x= .s (.int .i64 1)) (z:yX (zK tm) y= .s (.int A n)) (h0:0<=n/\n<=40):vA P ⟨tm,h⟩ (.binOp .shl tx x y ty) (.s (.int .i64 (p2 n))) [] [] []:=by
 have e:IntKind.i64.wrap (1*2 ^ (min n.toNat IntKind.i64.bits))=p2 n:=by
  have hb:IntKind.i64.bits=64:=rfl;have h1:=BK n h0.2;rw[hb,show min n.toNat 64=n.toNat by omega,zF6];exact kL (k:= .i64) ⟨by unfold p2 at h1;show -9223372036854775808<=_;omega,by unfold p2 at h1;show _<=9223372036854775807;omega⟩
 rw[<-e];exact XA (.inl ⟨rfl,rfl⟩) u z h0.1
theorem Vm {A:IntKind} {n:Int} (u:yX (zK tm) x= .s (.int .i64 m)) (z:yX (zK tm) y= .s (.int A n)) (h0:0<=n/\n<=40):vA P ⟨tm,h⟩ (.binOp .shr tx x y ty) (.s (.int .i64 (vX m n))) [] [] []:=by
 have hb:IntKind.i64.bits=64:=rfl;refine XA (.inr ⟨rfl,?_⟩) u z h0.1
 grind [yX,zK,vX]
end
section
variable {P:Program} {K0:List Nat} {F:Fr K0} {m:Nat}
def eQ {x y:Code} (K z:List Nat) (u:St) (A:K0.all (K.contains ·)=true) (h1:uG P F m x st (λe s=>e= .normal/\restr K z s=u)) (h2:uG P F m y u Q):uG P F m x st (XY P F m y Q):=
 ⟨λa w H=>Code.wpIn_mono (λe a' w' ⟨s,⟨he,hs⟩,hr⟩=>by subst he;exact⟨u,h2,hs▸wL.restr hr K z A⟩) (h1.run a w H)⟩
end
section
variable {P:Program} {tm:List (Nat×AV)} {h:List (Nat×xV)} {tx ty:Nat} {x y:Operand}
def Nc {a:List Int} {v:Bool} (u:yX (zK tm) x= .s (.string (strOfNums a))) (z:yX (zK tm) y= .s (.string (strOfNums b))) (hv:Qh a b=v):vA P ⟨tm,h⟩ (.binOp .eql tx x y ty) (.s (.bool v)) [] [] []:=hv▸JO u z
def Mc {a:List Int} {v:Bool} (u:yX (zK tm) x= .s (.string (strOfNums a))) (z:yX (zK tm) y= .s (.string (strOfNums b))) (hv:Qh a b=v):vA P ⟨tm,h⟩ (.binOp .neq tx x y ty) (.s (.bool (!v))) [] [] []:=hv▸JP u z
end
section
variable {P:Program} {K0:List Nat} {F:Fr K0} {m:Nat} {TT:List TI} {ops:Array Oper} {dr:Bool} {rest:List Oper} {tm:List (Nat×AV)} {h:List (Nat×xV)} {fs:List FP} {Q:List FP->St->Prop} {t ty:Nat} {pos:String} {after:Array Edge}
def bG (kn:Nat) (R:uW P TT) {n:Nat} {kx ky:IntKind} {O:Int} {z:AV} (W:yX (zK tm) x= .s (.int kx nx)) (Y:yX (zK tm) y= .s (.int ky O)) (hT:TT[T]? =some ti) (hd:ti.d= .slice e) (S:TT[e]? =some te)
 (hb:Nat.ble te.bytes 65536=true) (V:Nat.ble 1 te.size=true) (M:Nat.beq (ln te.zero) te.size=true) (I:te.zero.all (·.oneCell')=true) (L:Nat.beq (uK te).cells.length te.size=true) (A:(uK te).cells=te.zero.map .s) (hz:uK te=z)
 (C:nx=(n:Int)) (E:nx<=O) (u:O<=1073741824) (U:Nat.blt t m=true) (B:(zD h kn).isNone=true)
 (G:te.size=sz) (hk:yP P F m ops dr rest ⟨(t,.ref kn 0 n)::tm,(kn,.arr sz (pb n z) false)::h⟩ (⟨true,[kn,kn],[]⟩::fs) Q):yP P F m ops dr (⟨some t,.makeSlice T x y,ty,pos,after,none⟩::rest) ⟨tm,h⟩ fs Q:=by
 subst G hz;exact qA (nw:=[kn]) (WF R kn W Y hT hd S C E u hb V M I L A) U (Gc B) Z hk
end
section
variable {P:Program} {TT:List TI} {st:St}
theorem Oh (hP:uW P TT) {I n:Nat} {tn:TI} {k0:IntKind} (kn:Nat) (hs:yX (zK st.tm) s= .s (.slice none 0 0)) (hx:yX (zK st.tm) x= .s (.int .i64 nx)) (hT:TT[T]? =some ti) (hd:ti.d= .slice e) (he:TT[e]? =some te) (hI:TT[I]? =some tn) (a1:tn.d= .int k0)
 (a7:nx=(n:Int)) (B:1<=n) (Y:n<=1073741824) (hb:Nat.ble te.bytes 65536=true) (hp:Nat.ble 1 te.size=true) (O:Nat.beq (ln te.zero) te.size=true) (L:te.zero.all (·.oneCell')=true) (M:Nat.beq (uK te).cells.length te.size=true) (ar:(uK te).cells=te.zero.map .s):
  vA P st (.call ⟨.builtin .append, #[s,x], #[T,I]⟩) (.ref kn 0 n) [(kn,.arr te.size (pb n (uK te)) false)] [] [kn]:=by
 refine⟨?_⟩;intro X tm h hg _ hn o a w β ho HH Ht;obtain⟨d0,o0,y0,p0,f0,g0⟩:=o;dsimp only at ho;subst ho;have h1:=vS Ht hg (x:=s) kS hs;have h2:=vS Ht hg (x:=x) kS hx;have hp:=zBo hp;have hb:=zBo hb;have O:=zBz O;have M:=zBz M;subst a7;obtain⟨i,z,C,hi,hz,e1,e2,e3⟩:=vB hP hT hd he;obtain⟨_,u2,_,_,a9,_,az,_⟩:=vR (hP _ _ hI);obtain rfl:=MO (az.symm.trans a1)
 have au:n*i.bytes<=281474976710656:=by
  have:=zDx Y (show i.bytes<=65536 by omega);omega
 have hw:IntKind.i64.wrap (n:Int)=(n:Int):=kL ⟨by show(-9223372036854775808:Int)<=_;omega,by show _<=(9223372036854775807:Int);omega⟩
 have a8:n*i.size≠0:=by
  have:1*1<=n*i.size:=zDx B (by omega);omega
 have av:¬(281474976710656<(n:Int)*(i.bytes:Int)):=by
  grind
 have U:¬(281474976710656<Builtin.nextslicecap n 0*i.bytes):=by rw[nextslicecap_zero B];omega
 have ax:¬(9223372036854775807<(n:Int)):=by omega
 have a5:n≠0:=by omega
 have ac:¬((n:Int)<0):=by omega
 have ag:(Builtin.append_ #[T,I] y0 #[.slice none 0 0,.int .i64 (n:Int)]).run P w= .ok (.slice (some ⟨w.heap.size,0,none⟩) n (grownCap w n 0 e)) (w.drew.alloc (.cells (Builtin.zeroCells z.cells n++Builtin.zeroCells z.cells (grownCap w n 0 e-n)) e)):=by
  have ha:(asIntOf (.int .i64 (n:Int))).run P w= .ok (.i64,(n:Int)) w:=rfl;have a6:¬((n:Int)<=0):=by omega
  simp[Builtin.append_,run_underlying C,run_underlying a9,sizeOf,typeInfo,zeroValue,hi,hz,asInt,ha,hw,ac,a6,av,a8,a5,ax,U,Question.forced,run_firstCells_none,newRow,grownCap]
 have a2:(execOp a.eval ⟨d0,.call ⟨.builtin .append, #[s,x], #[T,I]⟩,y0,p0,f0,g0⟩).run P w= .ok (.value (.slice (some ⟨w.heap.size,0,none⟩) n (grownCap w n 0 e))) (w.drew.alloc (.cells (Builtin.zeroCells z.cells n++Builtin.zeroCells z.cells (grownCap w n 0 e-n)) e)):=by
  simp[execOp,resolve,invoke,builtin,h1,h2,ag]
 rw[a2];have HD:=HH.drew (w.drawn+1);have R:z.cells.size=te.size:=by rw[<-O,<-e3];simp
 have bf:=grownCap_ge w n 0 e;have A:(pb n (uK te)).length=n:=by simp
 have V:∀(j:Nat) v,(pb n (uK te))[j]? =some v->v=uK te:=λj v hv=>by
  grind
 have E:∀j,j<te.size->∃v,te.zero[j]? =some v/\z.cells.getD j undef=v:=λj hj=>by
  have:=jO z.cells j (by omega)
  grind
 obtain⟨β',G,hv⟩:=xU.newArr HD (hn kn zV) (Builtin.zeroCells z.cells n++Builtin.zeroCells z.cells (grownCap w n 0 e-n)) e te.size (pb n (uK te)) (grownCap w n 0 e) (λ_ j=>z.cells.getD j undef) hp (by rw[A];unfold cF;omega) (by rw[A];omega) (by
   simp only[zFm,size_zeroCells,R,<-zCi]
   congr 1;omega) (kE.get ((kE.zero (λv hv=>zBk.1 L v MN) _).app (kE.zero (λv hv=>zBk.1 L v MN) _)))
  (λj v hv=>by rw[V j v hv];exact M) (λS j hi' hj=>by
   rw[A]at hi'
   have W:S*te.size+j<n*te.size:=by
    have:=zBt te.size (show S+1<=n by omega)
    grind
   have a4:(S*te.size+j) % te.size=j:=by rw[zE7,zFz];exact zD0 hj
   rw[zC8 (by rw[size_zeroCells,R];exact W)];have a3:j<z.cells.size:=by omega
   simp only[Builtin.zeroCells,zF9,zFt,R,W,zE8,zC0,a4]
   congr 1
   simp[zB4,a3]) (λS j _ hj=>by
   obtain⟨v,hv,ba⟩:=E j hj;rw[ba]
   exact zBk.1 L v (zCq hv)) (λS v j u hv C=>by
   rw[V S v hv,ar]at C;rw[zBe]at C
   have hj:j<te.size:=by
    cases ap:te.zero[j]? with
    |none=>rw[ap]at C;cases C
    |some v9=>have:=(zBw.1 ap).1;omega
   obtain⟨v2,bb,bd⟩:=E j hj;rw[bb]at C;cases C;rw[bd]
   exact .s _)
 rw[A]at hv;exact⟨β',xU.trans HH (xU.drew HH (w.drawn+1)) G,hv⟩
def MA (C:uW P TT) (I:yX (zK st.tm) x= .s (.slice none 0 0)) (hT:TT[T]? =some ti) (hd:ti.d= .slice e):
  vA P st (.call ⟨.builtin .cap, #[x], #[T]⟩) (.s (.int .i64 0)) [] [] []:=
 yZ λL X V h w β a A E S M B=>by
  obtain⟨d0,o0,W,U,O,R⟩:=L;dsimp only at A;subst A;have hc:=vS B E (x:=x) kS I;obtain⟨u,G,z⟩:=wI (C _ _ hT) w;obtain rfl:=uE (z.trans hd);exact⟨_,by simp[execOp,resolve,invoke,builtin,Builtin.cap_,hc,G,goInt],.fz _ _ (.s _)⟩
def Lc (C:uW P TT) (O:yX (zK st.tm) x= .s (.slice none 0 0)) (hl:yX (zK st.tm) l= .s (.int k 0)) (hT:TT[T]? =some ti) (hd:ti.d= .slice e) (I:TT[e]? =some te):
  vA P st (.slice T x none (some l) none) (.s (.slice none 0 0)) [] [] []:=
 yZ λR X tm h w β a G E W S B=>by
  obtain⟨d0,o0,y0,Y,U,V⟩:=R;dsimp only at G;subst G;have hc:=vS B E (x:=x) uO O;obtain⟨u,M,z⟩:=wI (C _ _ hT) w;obtain rfl:=uE (z.trans hd);have L:=qN (C _ _ I) w;have hb:=fQ (P:=P) B E (lo:=none) (hi:=some l) (len:=0) (cap:=0) (l:=0) (r:=0) (λy A=>by cases A) (λy A=>by cases A;simp[Op.operands]) Z ⟨k,0,hl,by omega⟩ (zBb _) (zBb _) true;rw[zD9]at hb;exact⟨_,by simp only[execOp,Instr.sliceAt,Instr.slice,Sem.run_bind,M,Result.andThen_ok,hc,zD9,hb,L,Sem.run_pure];rfl,.fz _ _ (.s _)⟩
theorem JR (hP:uW P TT) {key:Nat} {yl:List AV} (b3:yX (zK st.tm) d= .ref key off len) (hk:zD st.h key=some (.arr sz xs false)) (hx:yX (zK st.tm) x=xv) (hT:TT[T]? =some ti) (hd:ti.d= .slice e) (he:TT[e]? =some te)
 (cb:AI (zD st.h) xv=some yl) (I:yl.take len=ys) (b9:∀y,ys[0]? =some y->ln y.cells=sz) (bs:1<=ln ys\/yl.length<=len) (a1:Nat.beq sz te.size=true):
  vA P st (.call ⟨.builtin .copy, #[d,x], #[T,T]⟩) (.s (.int .i64 (ln ys))) [(key,.arr sz (xs.take off++ys++xs.drop (off+ln ys)) false)] (key::OE xv) []:=by
 refine⟨?_⟩;intro X tm h hg hr _ o a w β ho HH Ht;obtain⟨d0,o0,y0,p0,f0,g0⟩:=o;dsimp only at ho;subst ho;have hk':=(hr key zV).trans hk;have h1:=gZ Ht hg (x:=d) kS b3;have h2:=gZ Ht hg (x:=x) kS hx;have a1:=zBz a1;obtain⟨g1,g2,g3,g4,g5,f,g6,g7,g8⟩:=HH.ent key _ hk'
 obtain⟨ad,cap,hc,_,b4,az⟩:=cX (sz:=sz) HH h2 ((fS λk' hk=>hr k' (by simp[hk])).trans cb) (λy B=>b9 y (by
  rcases bs with h|h
  .rw[<-I,zCv,zA5 (by have:ln ys<=len:=(by rw[<-I];simp;omega);omega)];exact B
  .rw[<-I,zBf h];exact B))
 have hn:ln ys<=len:=by rw[<-I];simp;omega
 have a4:ln ys=min len (ln yl):=by rw[<-I];simp
 have ax:min (ln yl) len=ln ys:=by rw[a4,Nat.min_comm]
 have cg:ln ys<=ln yl:=by omega
 have bu:ys≠[]->∃b o f,ad=some ⟨b,o,none⟩/\Z3 w (xT X β) h β false ys sz b o f:=λb5=>by
  obtain⟨b,o,f,e,hS⟩:=az (λh0=>b5 (by rw[<-I,h0];simp))
  have bb:∀(i:Nat) y,ys[i]? =some y->yl[i]? =some y:=λi y B=>by
   rw[<-I,zCv]at B;split at B
   .exact B
   .cases B
  exact⟨b,o,f,e,λi y B=>hS.wide i y (bb i y B),λi j hi hj=>hS.cell i j (by omega) hj,λi j hi hj=>hS.one i j (by omega) hj,λi y j v B hv=>hS.rep i y j v (bb i y B) hv⟩
 obtain⟨i,z,hu,hi,cj,e1,e2,e3⟩:=vB hP hT hd he
 have bl:∀b n,(b,n)∈β key->n=ln xs\/n=0:=λb n hb=>by
  cases hbk:β key with
  |nil=>rw[hbk]at hb;simp at hb
  |cons q rr=>
   obtain⟨b0,n0⟩:=q;obtain⟨q1,q2,_⟩:=g5 b0 n0 rr hbk;rw[hbk]at hb;simp at hb
   rcases hb with⟨_,rfl⟩|hb
   .exact .inl q1
   .exact .inr (q2 Z b n hb)
 have br:∀{w'},(Builtin.copy_ #[T,T] y0 #[a.eval d,a.eval x]).run P w= .ok (goInt (ln ys)) w'->(execOp a.eval ⟨d0,.call ⟨.builtin .copy, #[d,x], #[T,T]⟩,y0,p0,f0,g0⟩).run P w= .ok (.value (.int .i64 (ln ys))) w':=λhv=>by
  simp[execOp,resolve,invoke,builtin,hv,goInt]
 by_cases L:ys=[]
 .obtain rfl:yl=[]:=by
   rcases bs with h|h
   .rw[L]at h;simp at h
   .rw[zBf h]at I;rw[I,L]
  subst L;have ca:xs.take off++[]++xs.drop (off+([]:List AV).length)=xs:=by simp
  rw[ca]
  obtain⟨bd,cp,av⟩:∃bd cp,a.eval d= .slice bd len cp:=by
   generalize a.eval d=cx at h1
   cases h1 with
   |fz _ _ hf=>cases hf
   |dref _ _ _ _ hd _=>rw[hk']at hd;cases hd
   |ref _ _ _ _ _ _ _ _ _ _ _ _ _ _=>exact⟨_,_,rfl⟩
   |ref0 _ _ _ _ _ _ _ _=>exact⟨_,_,rfl⟩
  have ag:(Builtin.firstCells i.size 0 (.slice ad 0 cap)).run P w= .ok #[] w:=by
   cases ad with
   |none=>rfl
   |some a=>simp only[Builtin.firstCells,loadCells,zEp,loadCellsFrom];rfl
  rw[br (w':=w) (by
   rw[av,hc]
   cases bd with
   |none=>simp[Builtin.copy_,run_underlying hu,sizeOf,typeInfo,hi,Builtin.lenOf,ag]
   |some b=>simp[Builtin.copy_,run_underlying hu,sizeOf,typeInfo,hi,Builtin.lenOf,ag,storeCells])]
  have G:=xU.step (w':=w) HH key (.arr sz xs false) (β key) (zBb _) (λ_ _ _=>rfl) Z Z Z (λb n U=> .inl ⟨n,U⟩) (λ_ _ _=>rfl) (λe he=>by rw[hk']at he;cases he;exact .inr ⟨⟨_,_,rfl,zBb _⟩,λ_ n U=>⟨n,zBb _,U⟩⟩)
   (λE=>⟨g1,g2,λh=>by rw[yL];exact g3 h,g4,λb n r hr=>by rw[yL]at hr;exact g5 b n r hr,f,gH.evo E g6,g7,λb n U=>by rw[yL]at U;exact g8 b n U⟩)
  exact⟨_,G,.fz _ _ (.s _)⟩
 obtain⟨b2,q,fy,rfl,hS⟩:=bu L
 have cd:0<ln ys:=by cases ys with|nil=>exact absurd Z L|cons _ _=>simp
 obtain⟨ag,a8⟩:=hS.flat g1
 obtain⟨b,n,cp,av,M,ch,ce⟩:∃b n cp,a.eval d= .slice (some ⟨b,off*sz,none⟩) len cp/\(b,n)∈β key/\off+len<=n/\len<=cp:=by
  generalize a.eval d=cx at h1
  cases h1 with
  |fz _ _ hf=>cases hf
  |dref _ _ _ _ hd _=>rw[hk']at hd;cases hd
  |ref _ _ _ ck cl st' b n cp bf hb hn b1 ci=>
   rw[hk']at bf;cases bf;exact⟨b,n,cp,rfl,hb,hn,b1⟩
  |ref0 _ _ _ _ _ _ _ _=>omega
 have b6:n=ln xs:=by rcases bl b n M with h|h<;>omega
 subst b6;obtain⟨S,el,c1,c2,c3,c4⟩:=g8 b _ M;have ap:(off+ln ys)*sz<=S.size:=zCa (zBt _ (by omega)) c2;have a9:=run_firstCells_some (P:=P) w sz (ln ys) ⟨b2,q,none⟩ (ln yl) cap (flat fy (ln ys) sz) (zZ _ _ _) ag;have a2:=run_storeCells_at P b (off*sz) el (flat fy (ln ys) sz) 0 S w c1 (by rw[zZ,zDw,<-zCi];exact ap) a8;simp only[zDw]at a2;generalize O:(S.toList.take (off*sz)++flat fy (ln ys) sz++S.toList.drop (off*sz+(flat fy (ln ys) sz).length)).toArray=A at a2
 rw[br (w':=w.setRow b A) (by
  rw[av,hc];have a5:i.size=sz:=e1.trans a1.symm;rw[<-a5]at a9;have bx:(storeCells ⟨b,off*sz,none⟩ (flat fy (ln ys) i.size)).run P w= .ok () (w.setRow b A):=by rw[a5];exact a2
  simp[Builtin.copy_,run_underlying hu,Builtin.lenOf,sizeOf,typeInfo,hi,ax,a9,bx])]
 rw[zCi]at ap
 have ar:A.size=S.size:=by
  rw[<-O];simp only[zD6,zBa,zBv,zB6,zD8,zZ];omega
 have W:∀q,q<A.size->(A.getD q undef).oneCell'=true:=by
  rw[<-O];refine kE.get (kE.arr λv hv=>?_);have a7:=kE.of c4
  rcases zBs.1 hv with hv|hv
  .rcases zBs.1 hv with hv|hv
   .exact a7 v (zC2 hv)
   .exact a8 v hv
  .exact a7 v (zCc hv)
 let f':Nat->Nat->Value:=λi j=>if off<=i/\i<off+ln ys then fy (i-off) j else f i j
 have cc:off+ln ys<=ln xs:=by omega
 have R:(xs.take off++ys++xs.drop (off+ln ys)).length=ln xs:=by
  simp only[zBa,zBv,zB6];omega
 have a6:∀(i:Nat) y,(xs.take off++ys++xs.drop (off+ln ys))[i]? =some y->(off<=i/\i<off+ln ys/\ys[i-off]? =some y)\/(¬(off<=i/\i<off+ln ys)/\xs[i]? =some y):=λi y B=>by
  have ht:(xs.take off).length=off:=by simp;omega
  by_cases h5:i<off
  .rw[zBy,zB9 (by omega),zCv,zA5 h5]at B;exact .inr ⟨by omega,B⟩
  .by_cases h6:i<off+ln ys
   .rw[zBy,zCe (by omega),ht,zB9 (by omega)]at B;exact .inl ⟨by omega,h6,B⟩
   .rw[zCe qD]at B;simp only[zBa,ht]at B;rw[zDe,show off+ln ys+(i-(off+ln ys))=i by omega]at B;exact .inr ⟨by omega,B⟩
 have au:∀i j,i<ln xs->j<sz->A[i*sz+j]? =some (f' i j):=λi j hi hj=>by
  rw[<-O];simp only[f',zDv];by_cases h5:i<off
  .have bk:i*sz+j<off*sz:=by
    have:=zBt sz (show i+1<=off by omega);rw[zCi,zDh]at this;omega
   rw[Os (by omega),zBy,zB9 qD,zCv,zA5 bk];simpa using c3 i j hi hj
  .have ht:(List.take (off*sz) S.toList).length=off*sz:=by simp;omega
   have cf:off*sz<=i*sz:=zBt _ (by omega);by_cases h6:i<off+ln ys
   .have e4:i*sz+j-off*sz=(i-off)*sz+j:=by rw[zF7];omega
    have bk:(i-off)*sz+j<ln ys*sz:=by
     have:=zBt sz (show(i-off)+1<=ln ys by omega);rw[zCi,zDh]at this;omega
    rw[zA5 (by omega),zBy,zCe (by rw[ht];omega),ht,zB9 (by rw[zZ];omega),e4];exact kT fy (by omega) hj
   .have ba:(off+ln ys)*sz<=i*sz:=zBt _ (by omega);rw[zCi]at ba;rw[Os (by omega),zCe (by simp only[zBa,ht,zZ];omega),zDe];simp only[zBa,ht,zZ];rw[show off*sz+ln ys*sz+(i*sz+j-(off*sz+ln ys*sz))=i*sz+j by omega];simpa using c3 i j hi hj
 obtain⟨rr,hbk,b7⟩:∃rr,β key=(b,ln xs)::rr/\∀Y n',(Y,n')∈rr->n'=0:=by
  cases hbk:β key with
  |nil=>rw[hbk]at M;simp at M
  |cons q r=>
   obtain⟨b0,n0⟩:=q;obtain⟨q1,q2,_⟩:=g5 b0 n0 r hbk;have q2:=q2 Z;rw[hbk]at M;simp at M
   rcases M with⟨rfl,rfl⟩|U
   .exact⟨r,rfl,q2⟩
   .have:=q2 b _ U;omega
 refine⟨bH β key (β key),xU.step HH key _ _ zV (λj hj hn=>setRow_other w b j A (λe=>hn (ln xs) Of)) Z Z Z (λb n U=> .inl ⟨n,U⟩) (λb n _=>kM c1 ar b)
  (λe he=>by rw[hk']at he;cases he;exact .inr ⟨⟨_,_,rfl,by rw[R];exact zBb _⟩,λ_ n U=>⟨n,zBb _,U⟩⟩) λE=>⟨g1,by rw[R];exact g2,λ_=>by rw[yL,hbk];simp,λV x' a3=>?_,λY n' r C=>?_,f',λV x' j u a3 hu=>?_,λV j hi' hj=>?_,λY n' C=>?_⟩,.fz _ _ (.s _)⟩
 .rcases a6 V x' a3 with⟨_,_,h⟩|⟨_,h⟩
  .exact hS.wide _ x' h
  .exact g4 V x' h
 .rw[yL]at C;rw[R];exact g5 Y n' r C
 .simp only[f']
  rcases a6 V x' a3 with⟨q1,q2,h⟩|⟨q1,h⟩
  .rw[zA5 ⟨q1,q2⟩];exact⟨(hS.rep.toV _ x' j u h hu).evo E,λ_=>(hS.rep.toF Z _ x' j u h hu).evo E.size E.fz⟩
  .rw[Os q1];exact⟨(g6.toV V x' j u h hu).evo E,λ_=>(g6.toF Z V x' j u h hu).evo E.size E.fz⟩
 .rw[R]at hi';simp only[f'];split
  .exact hS.one _ _ (by omega) hj
  .exact g7 V j hi' hj
 .rw[yL]at C
  rcases bl Y n' C with rfl|rfl
  .have ac:Y=b:=by
    rw[hbk]at C;simp at C
    rcases C with rfl|h
    .rfl
    .have:=b7 Y _ h;omega
   subst ac;exact⟨A,el,setRow_heap w _ _ _ _ _ c1,by rw[ar];exact c2,λV j hi' hj=>au V j hi' hj,W⟩
  .by_cases ac:Y=b
   .subst ac;exact⟨A,el,setRow_heap w _ _ _ _ _ c1,by omega,λV j hi' _=>by omega,W⟩
   .obtain⟨c',bz,q1,q2,_,q4⟩:=g8 Y 0 C;exact⟨c',bz,(setRow_other w b Y A ac).trans q1,q2,λV j hi' _=>by omega,q4⟩
def Um (E:uW P TT) {key:Nat} (u:yX (zK st.tm) d= .ref key off len) (hk:zD st.h key=some (.arr sz xs false)) (I:yX (zK st.tm) x=xv) (hT:TT[T]? =some ti) (hd:ti.d= .slice e) (G:TT[e]? =some te)
 (B:AI (zD st.h) xv=some ys) (A:∀y,ys[0]? =some y->ln y.cells=sz) (z:Nat.beq sz te.size=true) (C:ln ys<=len):
  vA P st (.call ⟨.builtin .copy, #[d,x], #[T,T]⟩) (.s (.int .i64 (ln ys))) [(key,.arr sz (xs.take off++ys++xs.drop (off+ln ys)) false)] (key::OE xv) []:=
 JR E u hk I hT hd G B (zBf C) A (.inr C) z
end
section
variable {P:Program} {K0:List Nat} {F:Fr K0} {m:Nat} {tm:List (Nat×AV)} {h:List (Nat×xV)}
theorem wL.trunc (R:wL F m ⟨tm,h⟩ a w) (t kn K:Nat) {st:Fl} (L:K0=[]) (hv:zK tm t= .ref kn 0 0) (hk:zD h kn=some (.arr sz xs st)):wL F m ⟨[(t,.ref K 0 0)],[(K,.arr sz [] true)]⟩ a w:=by
 obtain⟨⟨X,β,hX,H,Ht,G,hJ,hD⟩,nd,gs,hl⟩:=R;have g:=H.ent kn _ hk;obtain⟨g1,g2,g3,g4,g5,f,g6,g7,g8⟩:=g;have h1:=Ht t;rw[hv]at h1
 have M:∀k e,zD [(K,xV.arr sz [] true)] k=some e->k=K/\e= .arr sz [] true:=λk e C=>by
  rw[xK]at C;split at C
  .rename_i hh;cases C;exact⟨hh,rfl⟩
  .cases C
 have key:∀l:List (Nat×Nat),(∀b n,(b,n)∈l->n=0/\∃z,(b,z)∈β kn)->(l=[]\/∃b,l=[(b,0)])->yK w (xT X λk=>if k=K then l else []) (zD [(K,xV.arr sz [] true)]) (λk=>if k=K then l else []) (.ref K 0 0) (a.eval (.tmp t))->wL F m ⟨[(t,.ref K 0 0)],[(K,.arr sz [] true)]⟩ a w:=by
  intro l U V O
  have B:∀k b n,(b,n)∈(if k=K then l else [])->k=K/\n=0/\∃z,(b,z)∈β kn:=λk b n u=>by
   split at u
   .rename_i hh;exact⟨hh,U b n u⟩
   .simp at u
  have S:∀b,xT X (λk=>if k=K then l else []) b->xT X β b:=λb hd=>by
   rcases hd with hx|⟨k,n,u⟩
   .exact .inl hx
   .obtain⟨_,_,z,A⟩:=B k b n u;exact .inr ⟨kn,z,A⟩
  have HH:jM X (zD [(K,xV.arr sz [] true)]) (λk=>if k=K then l else []) w:=by
   refine⟨λk e C=>?_,λk C=>?_,λk k' b n z q1 q2=>?_,λk b n u=>?_,λb hd=>H.lt b (S b hd)⟩
   .obtain⟨rfl,rfl⟩:=M k e C;refine⟨g1,by simp,λh=>absurd Z h,λi y W=>by simp at W,λb n r I=>?_,λ_ _=>undef,λi y j v W _=>by simp at W,λi j hi _=>by simp at hi,λb n u=>?_⟩
    ·(try dsimp only at I)
     rw[zA5 Z]at I
     rcases V with A|⟨b5,A⟩
     .rw[A]at I;cases I
     .rw[A]at I;cases I;exact⟨rfl,λh=>(by cases h),λb' z u=>by simp at u⟩
    .obtain⟨_,rfl,z,A⟩:=B _ b n u;obtain⟨c,el,q1,_,_,q4⟩:=g8 b z A;exact⟨c,el,q1,by omega,λi j hi _=>by omega,q4⟩
   ·(try dsimp only)
    split
    .rename_i hh;rw[hh,xK,zA5 Z]at C;cases C
    .rfl
   .obtain⟨r1,_⟩:=B k b n q1;obtain⟨r2,_⟩:=B k' b z q2;exact r1.trans r2.symm
   .obtain⟨_,_,z,A⟩:=B k b n u;exact H.free kn b z A
  refine⟨⟨X,_,hX,HH,λj=>?_,⟨λk e C=>?_,G.size,G.keep,λk b n u=>?_,λk b n u=>?_,G.bs,G.os,G.tape,G.output⟩,λi hi=>?_,hD⟩,λk E=>?_,gs,hl⟩
  .rw[xF];split
   .rename_i hj;subst hj;exact O
   .exact .fz _ _ (.bot _)
  .have:=F.hh k e C;rw[L]at this;simp at this
  .obtain⟨_,_,z,A⟩:=B k b n u;exact G.own kn b z A
  .have:=F.hK k b n u;rw[L]at this;simp at this
  .rw[xF]at hi
   split at hi<;>cases hi
  .obtain⟨_,A⟩:=M k _ E;cases A
 generalize ag:a.eval (.tmp t)=c at h1 key
 cases h1 with
 |fz _ _ hf=>cases hf
 |dref _ _ _ _ hd _=>exact absurd hd (nd kn)
 |ref0 _ _ Y ac st' ad E hn=>
  refine key [] (λb n u=>by simp at u) (.inl Z) ?_;exact .ref0 K 0 sz [] true ad (by rw[xK,zA5 Z]) (zBb _)
 |ref _ _ _ Y ac st' b n cap E hb hn hc hs=>
  rw[hk]at E;cases E;refine key [(b,0)] (λb' z u=>by simp at u;obtain⟨rfl,rfl⟩:=u;exact⟨rfl,n,hb⟩) (.inr ⟨b,rfl⟩) ?_;exact .ref K 0 0 sz [] true b 0 cap (by rw[xK,zA5 Z]) zV (zBb _) hc hs
def Nh (t kn K:Nat) {st:Fl} (u:K0=[]) (hv:zK tm t= .ref kn 0 0) (hk:zD h kn=some (.arr sz xs st)) (z:uG P F m c ⟨[(t,.ref K 0 0)],[(K,.arr sz [] true)]⟩ Q):uG P F m c ⟨tm,h⟩ Q:=
 ⟨λa w H=>z.run a w (H.trunc t kn K u hv hk)⟩
end
section
variable {P:Program} {TT:List TI} {K0:List Nat} {F:Fr K0} {m:Nat} {ops:Array Oper} {rest:List Oper} {Q:List FP->St->Prop} {tm:List (Nat×AV)} {h:List (Nat×xV)} {dr:Bool} {fs:List FP}
variable {ty:Nat} {pos:String} {after:Array Edge} {t:Nat}
def ay (E:uW P TT) {key:Nat} {C:List AV} (u:yX (zK tm) d= .ref key off len) (hk:zD h key=some (.arr sz xs false)) (O:yX (zK tm) x=xv) (hT:TT[T]? =some ti) (hd:ti.d= .slice e) (G:TT[e]? =some te)
 (B:AI (zD h) xv=some ys) (A:∀y,ys[0]? =some y->ln y.cells=sz) (z:Nat.beq sz te.size=true) (L:ln ys<=len) (R:xs.take off++ys++xs.drop (off+ln ys)=C) (I:Nat.blt t m=true)
 (M:yP P F m ops dr rest ⟨(t,.s (.int .i64 (ln ys)))::tm,(key,.arr sz C false)::h⟩ (⟨true,[key],key::OE xv⟩::fs) Q):yP P F m ops dr (⟨some t,.call ⟨.builtin .copy, #[d,x], #[T,T]⟩,ty,pos,after,none⟩::rest) ⟨tm,h⟩ fs Q:=by
 subst R;exact qA (nw:=[]) (Um E u hk O hT hd G B A z L) I Z Z M
def dM (z:uW P TT) {i:Int} (E:yX (zK tm) x= .ref key 0 len) (hk:zD h key=some (.arr sz xs sl)) (hl:yX (zK tm) l= .s (.int k i)) (hT:TT[T]? =some ti) (hd:ti.d= .slice e) (A:TT[e]? =some te)
 (u:Nat.beq sz te.size=true) (h0:0<=i) (h1:i<=len) (B:Nat.blt t m=true) (C:yP P F m ops dr rest ⟨(t,.ref key i.toNat (len-i.toNat))::tm,h⟩ (⟨true,[],[key]⟩::fs) Q):
  yP P F m ops dr (⟨some t,.slice T x (some l) none none,ty,pos,after,none⟩::rest) ⟨tm,h⟩ fs Q:=by
 have:=bI (P:=P) (st:=⟨tm,h⟩) (lo:=some l) (hi:=none) (l:=i.toNat) (r:=len) z E hk hT hd A ⟨k,i,hl,by omega⟩ rfl (by omega) (zBb _) u;rw[zCn]at this;exact wJ this B C
def Yf (z:uW P TT) (E:yX (zK tm) x= .ref key 0 len) (hk:zD h key=some (.arr sz xs sl)) (hl:yX (zK tm) l= .s (.int k 0)) (hT:TT[T]? =some ti) (hd:ti.d= .slice e) (A:TT[e]? =some te)
 (u:Nat.beq sz te.size=true) (B:Nat.blt t m=true) (C:yP P F m ops dr rest ⟨(t,.ref key 0 0)::tm,h⟩ (⟨true,[],[key]⟩::fs) Q):
  yP P F m ops dr (⟨some t,.slice T x none (some l) none,ty,pos,after,none⟩::rest) ⟨tm,h⟩ fs Q:=by
 have:=bI (P:=P) (st:=⟨tm,h⟩) (lo:=none) (hi:=some l) (l:=0) (r:=0) z E hk hT hd A Z ⟨k,0,hl,by omega⟩ (zBb _) (zBn _) u;exact wJ this B C
def gu (V:uW P TT) {I n:Nat} {S:TI} {k0:IntKind} {z:AV} (hs:yX (zK tm) s= .s (.slice none 0 0)) (hx:yX (zK tm) x= .s (.int .i64 nx)) (hT:TT[T]? =some ti) (hd:ti.d= .slice e) (W:TT[e]? =some te) (U:TT[I]? =some S) (C:S.d= .int k0)
 (hb:Nat.ble te.bytes 65536=true) (hp:Nat.ble 1 te.size=true) (R:Nat.beq (ln te.zero) te.size=true) (M:te.zero.all (·.oneCell')=true) (O:Nat.beq (uK te).cells.length te.size=true) (B:(uK te).cells=te.zero.map .s) (hz:uK te=z)
 (G:nx=(n:Int)) (A:1<=n) (u:n<=1073741824) (Y:Nat.blt t m=true) (E:(zD h t).isNone=true)
 (L:te.size=sz) (hk:yP P F m ops dr rest ⟨(t,.ref t 0 n)::tm,(t,.arr sz (pb n z) false)::h⟩ (⟨true,[t,t],[]⟩::fs) Q):yP P F m ops dr (⟨some t,.call ⟨.builtin .append, #[s,x], #[T,I]⟩,ty,pos,after,none⟩::rest) ⟨tm,h⟩ fs Q:=by
 subst L hz;exact qA (nw:=[t]) (Oh V t hs hx hT hd W U C G A u hb hp R M O B) Y (Gc E) Z hk
end
