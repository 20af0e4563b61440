/- Part 3. -/
import Derived.Test.YtaglbcjljlkjcaaGreatProg
import Derived.Test.YtaglbcjljlkjcaaGreatW02
import Derived.RangeFuncIn
import Derived.RangeFuncSeq
import Derived.RangeFuncLeaves
import Derived.Laws.BytesArg
import Derived.Laws.Strings
import Derived.Laws.StructEq
namespace Go.Proofs.YtaglbcjljlkjcaaGreat.Av
set_option linter.all false
set_option maxRecDepth 4000
open List renaming length->ln,replicate->pb,getD->pi
open Inhabited renaming default->dd
variable {a:Act}{asq:Array Operand}{nn sb:Bool}{body c:Code}{Q:Exit->St->Prop}{sl:Fl}{m nx:Int}{h0:List (Nat×xW)}{b:List Int}{K0:List Nat}{L T e i k key len n off sz:Nat}{D X:Nat->Prop}{op:Op}{d l s x:Operand}{P:Program}{st:St}{te ti:TI}{w:World}{β:uM}{h:yS}
abbrev zFN:TI:=⟨.func,1,8,[.nilFunc]⟩
abbrev zPT (n:Nat):TI:=⟨.ptr n,1,8,[.pointer none]⟩
abbrev zSL (n:Nat):TI:=⟨.slice n,1,24,[.slice none 0 0]⟩
abbrev zNL:Value:= .slice none 0 0
abbrev zZI:Value:= .int .i64 0
abbrev zTA:TI:=⟨.str [(0,3),(1,3),(2,3),(3,3),(4,3)],5,40,[zZI,zZI,zZI,zZI,zZI]⟩
abbrev zTB:TI:=⟨.int .u8,1,1,[.int .u8 0]⟩
abbrev zTC:TI:=⟨.other,1,0,[.tuple #[zNL,zZI]]⟩
abbrev zTD:TI:=⟨.str [(0,3),(1,3),(2,3)],3,24,[zZI,zZI,zZI]⟩
abbrev zTE:TI:=⟨.str [(0,3),(1,3)],2,16,[zZI,zZI]⟩
abbrev zTF:TI:=⟨.int .i64,1,8,[zZI]⟩
abbrev zTG:TI:=⟨.string,1,16,[.string ⟨#[]⟩]⟩
abbrev zTH:TI:=⟨.int .u64,1,8,[.int .u64 0]⟩
abbrev zTI:TI:=⟨.int .i32,1,4,[.int .i32 0]⟩
abbrev zTJ:TI:=⟨.str [(0,2),(1,3),(2,4),(3,6)],4,24,[zZI,zZI,.bool false,.int .u8 0]⟩
abbrev zTK:TI:=⟨.str [(0,9),(1,12)],2,24,[.string ⟨#[]⟩,.int .u64 0]⟩
abbrev zTL:TI:=⟨.str [(0,17)],1,8,[.pointer none]⟩
abbrev zTM:TI:=⟨.str [(0,25),(1,26),(2,3),(3,3),(4,3),(5,3)],6,80,[zNL,zNL,zZI,zZI,zZI,zZI]⟩
abbrev zTN:TI:=⟨.str [(0,28),(6,4),(7,3),(8,29),(9,30),(10,31),(11,22),(12,32)],13,216,[zNL,zNL,zZI,zZI,zZI,zZI,.bool false,zZI,zNL,zNL,zNL,zNL,zNL]⟩
abbrev zTO:TI:=⟨.str [(0,34),(13,35)],14,240,[zNL,zNL,zZI,zZI,zZI,zZI,.bool false,zZI,zNL,zNL,zNL,zNL,zNL,zNL]⟩
abbrev zTP:TI:=⟨.str [(0,42),(1,43)],2,48,[zNL,zNL]⟩
abbrev zTQ:TI:=⟨.str [(0,55),(1,3),(2,3),(3,22),(4,3),(5,3),(6,3),(7,3)],8,96,[zNL,zZI,zZI,zNL,zZI,zZI,zZI,zZI]⟩
abbrev zTR:TI:=⟨.str [(0,3),(1,55),(2,22),(3,55)],4,80,[zZI,zNL,zNL,zNL]⟩
abbrev zTS:TI:=⟨.str [(0,62),(1,3),(2,55)],3,40,[zZI,zZI,zNL]⟩
abbrev zTT:TI:=⟨.str [(0,4),(1,58)],2,32,[.bool false,zNL]⟩
abbrev zTU:TI:=⟨.str [(0,3),(1,57),(9,70),(10,71),(11,73)],14,176,[zZI,zNL,zZI,zZI,zNL,zZI,zZI,zZI,zZI,zNL,zNL,zZI,zZI,zZI]⟩
abbrev zTV:TI:=⟨.str [(0,75),(14,76),(15,77),(16,78)],17,248,[zZI,zNL,zZI,zZI,zNL,zZI,zZI,zZI,zZI,zNL,zNL,zZI,zZI,zZI,zNL,zNL,zNL]⟩
abbrev zTW:TI:=⟨.other,1,0,[.tuple #[zZI,zZI]]⟩
abbrev zTX:TI:=⟨.str [(0,4),(1,4),(2,22),(3,22)],4,56,[.bool false,.bool false,zNL,zNL]⟩
abbrev zTY:TI:=⟨.str [(0,88),(1,22),(2,3)],3,56,[zNL,zNL,zZI]⟩
abbrev zTZ:TI:=⟨.str [(0,91),(1,3),(2,22),(3,3)],4,64,[zNL,zZI,zNL,zZI]⟩
abbrev zUA:TI:=⟨.str [(0,93),(4,4)],5,72,[zNL,zZI,zNL,zZI,.bool false]⟩
abbrev zUB:TI:=⟨.str [(0,3),(1,3),(2,22)],3,40,[zZI,zZI,zNL]⟩
abbrev zUC:TI:=⟨.str [(0,22),(1,3)],2,32,[zNL,zZI]⟩
abbrev zUD:TI:=⟨.str [(0,3),(1,3),(2,3),(3,3),(4,55)],5,56,[zZI,zZI,zZI,zZI,zNL]⟩
abbrev zUE:TI:=⟨.str [(0,77),(1,55)],2,48,[zNL,zNL]⟩
abbrev zUF:TI:=⟨.str [(0,3),(1,3),(2,3),(3,3),(4,3),(5,3),(6,3),(7,3)],8,64,[zZI,zZI,zZI,zZI,zZI,zZI,zZI,zZI]⟩
abbrev zUG:TI:=⟨.str [(0,55),(1,4)],2,32,[zNL,.bool false]⟩
abbrev zUH:TI:=⟨.str [(0,4),(1,4),(2,184)],4,40,[.bool false,.bool false,zNL,.bool false]⟩
abbrev zUI:TI:=⟨.str [(0,3),(1,3),(2,62)],3,24,[zZI,zZI,zZI]⟩
abbrev zUJ:TI:=⟨.str [(0,3),(1,3),(2,3),(3,3),(4,227)],5,56,[zZI,zZI,zZI,zZI,zNL]⟩
abbrev zUK:TI:=⟨.str [(0,4),(1,55),(2,3),(3,3),(4,3),(5,3)],6,64,[.bool false,zNL,zZI,zZI,zZI,zZI]⟩
abbrev zUL:TI:=⟨.str [(0,3),(1,3),(2,3),(3,3),(4,3),(5,3)],6,48,[zZI,zZI,zZI,zZI,zZI,zZI]⟩
abbrev zUM:TI:=⟨.str [(0,17),(1,17),(2,17),(3,9)],4,40,[.pointer none,.pointer none,.pointer none,.string ⟨#[]⟩]⟩
abbrev zUN:TI:=⟨.str [(0,393)],0,0,[]⟩
abbrev zUO:TI:=⟨.str [(0,12),(1,12),(2,317),(3,397),(4,5),(5,5),(6,398),(7,399),(8,400),(9,401),(10,402)],11,48,[.int .u64 0,.int .u64 0,.int .u32 0,.int .u8 0,.int .u8 0,.int .u8 0,.int .u8 0,.nilFunc,.pointer none,.int .i32 0,.int .i32 0]⟩
def TT:List TI:=[⟨.other,1,0,[.tuple #[]]⟩,zFN,zTF,zTF,⟨.bool,1,1,[.bool false]⟩,zTB,zTB,zTJ,zTJ,zTG,zTG,zTG,zTH,zTK,zTK,zPT 392,zPT 395,zPT 404,zTL,zTL,⟨.other,1,16,[.nilIface]⟩,zTI,zSL 3,zPT 115,zFN,zSL 90,zSL 57,zTM,zTM,zSL 80,zSL 95,zSL 101,zSL 87,zTN,zTN,zSL 186,zTO,zTO,zFN,zSL 68,zFN,zFN,zSL 43,zSL 60,zTP,zTP,⟨.other,1,0,[.tuple #[.agg #[zNL,zNL,zZI,zZI,zZI,zZI,.bool false,zZI,zNL,zNL,zNL,zNL,zNL],.agg #[zNL,zNL]]]⟩,zFN,zFN,zFN,zFN,zFN,zFN,zFN,zFN,zSL 5,zTQ,zTQ,zSL 66,zTR,zTR,zFN,zTF,zTC,zFN,zTS,zTS,zTT,zTT,zFN,zSL 268,zSL 270,zTD,zTD,zTU,zTU,zSL 229,zSL 55,zSL 4,zTV,zTV,zTW,zFN,zFN,zFN,zFN,zTX,zTX,zSL 169,zTY,zTY,zSL 166,zTZ,zTZ,zUA,zUA,zTH,zFN,zFN,zFN,zUB,zUB,zFN,zFN,zFN,⟨.arr 2 3,2,16,[zZI,zZI]⟩,zSL 105,zFN,zFN,zSL 112,zFN,zTA,zTA,zFN,zUC,zUC,zFN,zFN,zSL 121,zFN,zUD,zUD,zUE,zUE,⟨.other,1,0,[.tuple #[.agg #[zNL,zNL,zZI,zZI,zZI,zZI,.bool false,zZI,zNL,zNL,zNL,zNL,zNL,zNL],.agg #[zNL,zNL],.bool false]]⟩,zFN,zFN,zFN,zSL 42,zSL 204,⟨.other,1,0,[.tuple #[zNL,zNL,zNL]]⟩,zFN,⟨.other,1,0,[.tuple #[.agg #[zNL,zZI,zNL,zZI,.bool false],.bool false]]⟩,zFN,zFN,zPT 34,zFN,zFN,zFN,zTD,zTD,zFN,zFN,zFN,zFN,⟨.other,1,0,[.tuple #[.agg #[zZI,zNL,zZI,zZI,zNL,zZI,zZI,zZI,zZI,zNL,zNL,zZI,zZI,zZI,zNL,zNL,zNL],zNL,zNL,zNL]]⟩,zFN,⟨.other,1,0,[.tuple #[.agg #[zNL,zZI,zNL,zZI,.bool false],.agg #[zZI,zZI,zNL]]]⟩,zFN,zFN,zFN,zFN,zFN,zFN,zFN,zFN,zFN,zFN,zFN,zFN,zFN,zFN,zFN,zFN,zFN,zTE,zTE,zFN,zUF,zUF,zFN,zFN,zFN,zTH,zPT 80,zFN,zFN,zFN,zFN,zFN,zFN,zFN,zFN,zUG,zUG,zUH,zUH,zFN,zFN,⟨.other,1,0,[.tuple #[.agg #[.bool false,.bool false,zNL,.bool false],.agg #[.bool false,zNL]]]⟩,zFN,zFN,zFN,zFN,zFN,zFN,zFN,zFN,zFN,zFN,zFN,zFN,zFN,zUI,zUI,zFN,zFN,zFN,zFN,zFN,
 ⟨.other,1,0,[.tuple #[.agg #[zZI,zNL,zZI,zZI,zNL,zZI,zZI,zZI,zZI,zNL,zNL,zZI,zZI,zZI,zNL,zNL,zNL],.agg #[zZI,zNL,zNL,zNL],.agg #[zZI,zZI,zZI],zZI]]⟩,zFN,zFN,zFN,zFN,zFN,zFN,zFN,zFN,zTA,zTA,zFN,zFN,zFN,zFN,zFN,zFN,zSL 231,zUJ,zUJ,zTA,zTA,zFN,zFN,zFN,zFN,zFN,zFN,zFN,zFN,zFN,⟨.other,1,0,[.tuple #[.agg #[zNL,.bool false],.bool false]]⟩,zFN,⟨.other,1,0,[.tuple #[.agg #[zNL,.bool false],zNL]]⟩,zFN,zFN,zFN,zFN,zFN,zFN,zFN,zFN,zFN,zFN,zFN,⟨.other,1,0,[.tuple #[.agg #[zZI,zNL,zNL,zNL],zZI]]⟩,zFN,⟨.other,1,0,[.tuple #[.agg #[zZI,zNL,zZI,zZI,zNL,zZI,zZI,zZI,zZI,zNL,zNL,zZI,zZI,zZI],zZI,zZI]]⟩,zFN,⟨.other,1,0,[.tuple #[.agg #[zZI,zNL,zZI,zZI,zNL,zZI,zZI,zZI,zZI,zNL,zNL,zZI,zZI,zZI,zNL,zNL,zNL],.agg #[zZI,zNL,zNL,zNL],zZI,zZI]]⟩,zFN,zFN,zFN,zFN,zFN,zFN,zFN,zUK,zUK,zTE,zTE,zFN,zFN,zFN,zFN,zFN,zPT 93,zFN,⟨.other,1,0,[.tuple #[.agg #[zZI,zZI,zNL],zZI,.bool false]]⟩,zFN,zFN,zFN,zFN,zFN,zFN,zFN,zUL,zUL,⟨.other,1,0,[.tuple #[.agg #[zZI,zZI,zZI,zZI,zZI,zZI],.bool false]]⟩,zFN,⟨.other,1,0,[.tuple #[zZI,.bool false]]⟩,zFN,zFN,⟨.other,1,0,[.tuple #[zNL,zNL,.bool false]]⟩,zFN,zTW,zFN,⟨.other,1,0,[.tuple #[.agg #[zZI,zZI,zZI],.bool false]]⟩,zFN,⟨.other,1,0,[.tuple #[.agg #[zZI,zNL,zZI,zZI,zNL,zZI,zZI,zZI,zZI,zNL,zNL,zZI,zZI,zZI,zNL,zNL,zNL],.agg #[zZI,zNL,zNL,zNL],zZI]]⟩,zFN,⟨.other,1,0,[.tuple #[.agg #[zZI,zNL,zZI,zZI,zNL,zZI,zZI,zZI,zZI,zNL,zNL,zZI,zZI,zZI,zNL,zNL,zNL],zZI]]⟩,zFN,zFN,zTC,zFN,zFN,zFN,zFN,zFN,zFN,zFN,zFN,zFN,zFN,zFN,zFN,⟨.int .u32,1,4,[.int .u32 0]⟩,zFN,zFN,zFN,zFN,zFN,zFN,zFN,zFN,zFN,zFN,zFN,zFN,zFN,⟨.other,1,0,[.tuple #[zZI,zZI,zZI]]⟩,zFN,
 ⟨.other,1,0,[.tuple #[.agg #[zZI,zNL,zZI,zZI,zNL,zZI,zZI,zZI,zZI,zNL,zNL,zZI,zZI,zZI],.agg #[zZI,zNL,zNL,zNL],.bool false,zZI]]⟩,zFN,⟨.other,1,0,[.tuple #[.agg #[zZI,zZI],.bool false]]⟩,zFN,⟨.other,1,0,[.tuple #[.agg #[zZI,zZI,zZI,zZI,zZI],zZI]]⟩,zFN,zFN,zFN,zFN,zFN,⟨.arr 5 3,5,40,[zZI,zZI,zZI,zZI,zZI]⟩,zFN,zFN,zFN,zFN,zFN,zFN,zFN,zFN,zFN,zFN,zFN,zFN,⟨.other,1,0,[.tuple #[zNL,zZI,zZI]]⟩,zFN,zTC,zFN,zTC,zFN,zFN,zFN,⟨.other,1,0,[.tuple #[.agg #[zZI,zZI,zZI,zZI,zNL],.bool false]]⟩,zFN,zFN,zFN,zPT 75,zFN,zFN,zFN,zFN,zFN,zFN,zFN,zFN,zFN,zFN,zFN,zFN,zFN,zFN,zFN,zFN,zFN,zSL 71,zFN,zFN,zFN,zFN,zUM,zUM,⟨.arr 0 16,0,0,[]⟩,zUN,zUN,zFN,zTB,zTB,zFN,zPT 5,zTI,zTI,zUO,zUO,⟨.other,1,8,[.pointer none]⟩]
def tok:uZ Tryz.prog TT:=Nb NA
def A1 (v:AV) (k:AV->Prop):Prop:=match v with
 | .s v=>k (.s v)
 | .ptr j i o=>k (.ptr j i o)
 | .agg cs=>k (.agg cs)
 | .sl b xs=>k (.sl b xs)
 | .slc b xs=>k (.slc b xs)
 | .ref j o n=>k (.ref j o n)
 | .fp xs i o=>k (.fp xs i o)
 | .fn f cs=>k (.fn f cs)
 | .tup vs=>k (.tup vs)
 | .bot=>k .bot
 | .gh n=>k (.gh n)
 | .fm o p=>k (.fm o p)
def Pf (v:AV) (k:AV->Prop):A1 v k=k v:=by cases v<;>rfl
def AM:List AV->(List AV->Prop)->Prop
 | [],k=>k []
 |x::r,k=>A1 x λx=>AM r λr=>k (x::r)
theorem MJ:∀(l:List AV) (k:List AV->Prop),AM l k=k l
 | [],_=>rfl
 |x::r,k=>by rw[AM,Pf,MJ r]
def jY (K:List Nat) (h:yS) (u:List (Nat×AV)):List Nat->(List (Nat×AV)->Prop)->Prop
 | [],k=>k []
 |t::z,k=>A1 (wT K h (zK u t)) λv=>jY K h u z λr=>k ((t,v)::r)
theorem dS (K:List Nat) (h:yS) (z:List (Nat×AV)):∀(u:List Nat) (k:List (Nat×AV)->Prop),jY K h z u k=k (u.map λt=>(t,wT K h (zK z t)))
 | [],_=>rfl
 |t::u,k=>by rw[jY,Pf,dS K h z u];rfl
def jS (K:List Nat) (h:yS):List Nat->(List (Nat×xW)->Prop)->Prop
 | [],k=>k []
 |j::Ks,k=>match h j with
  |none=>jS K h Ks k
  |some (.box cs)=>AM (kO K h cs) λcs=>jS K h Ks λr=>k ((j,.box cs)::r)
  |some (.arr sz xs st)=>bif st.nest then AM (kO K h xs) λxs=>(bif vI xs then jS K h Ks λr=>k ((j,.arr sz xs ⟨st.stale,false⟩)::r)else jS K h Ks λr=>k ((j,.arr sz xs ⟨st.stale,true⟩)::r))else jS K h Ks λr=>k ((j,.arr sz xs st)::r)
  |some .dead=>jS K h Ks λr=>k ((j,.dead)::r)
  |some (.obj o)=>jS K h Ks λr=>k ((j,.obj o)::r)
theorem kV (K:List Nat) (h:yS):∀(Ks:List Nat) (k:List (Nat×xW)->Prop),jS K h Ks k=k (Ks.filterMap λj=>(h j).map λe=>(j,kC K h e))
 | [],_=>rfl
 | j ::Ks,k=>by
  rw[jS,List.filterMap_cons]
  cases h j with
  |none=>exact kV K h Ks k
  | some e=>
   cases e with
   |box cs=>dsimp only[Option.map_some];rw[MJ,kV K h Ks];rfl
   |obj cs=>dsimp only[Option.map_some];rw[kV K h Ks];rfl
   | arr sz xs st=>
    dsimp only[Option.map_some]
    cases u:st.nest with
    |false=>
     have e:kC K h (.arr sz xs st)= .arr sz xs st:=by simp only[kC,u,zCt]
     rw[e];simp only[zCt];rw[kV K h Ks]
    |true=>
     have e:kC K h (.arr sz xs st)= .arr sz (kO K h xs) ⟨st.stale,!vI (kO K h xs)⟩:=by simp only[kC,u,zB6]
     rw[e];simp only[zB6];rw[MJ]
     cases hk:vI (kO K h xs)with
     |true=>simp only[zB6,zFu];rw[kV K h Ks]
     |false=>simp only[zCt,zEp];rw[kV K h Ks]
   |dead=>dsimp only[Option.map_some];rw[kV K h Ks];rfl
section
variable {P:Program} {K0:List Nat} {F:Fr K0} {m:Nat} {Q:Exit->St->Prop} {st:St} {c:Code}
def cF (Q:Exit->St->Prop) (I:St->Prop):Exit->St->Prop
 | .normal,s=>I s
 |e,s=>Q e s
theorem yU (N:Nat) (K Ks B u:List Nat) (C:K0.all (K.contains ·)=true) (I:Nat->List (Nat×AV)->List (Nat×xW)->St->Prop)
  (h:jY K (zD st.h) st.tm B λT=>jS K (zD st.h) Ks λU=>I 0 T U (restr K u st)/\(∀i s,i<N->I i T U s->uD P F m c s (cF Q λs=>I (i+1) T U (restr K u s)))/\
   ∀s,I N T U s->uD P F m c s (cF Q λ_=>False)):uD P F m (.loop c) st Q:=by
 rw[dS,kV]at h;generalize (B.map _)=T at h;generalize (Ks.filterMap _)=U at h;obtain⟨h0,h1,h2⟩:=h;refine wP (λn s=>∃i,n+i=N/\I i T U s) N K u C ⟨0,rfl,h0⟩ λn s ⟨i,hi,hs⟩=>?_
 by_cases z:i<N
 .refine(h1 i s z hs).mono λe E A=>?_
  cases e with
  |normal=>exact⟨n-1,by omega,i+1,by omega,A⟩
  |_=>exact A
 .obtain rfl:i=N:=by omega
  refine(h2 s hs).mono λe E A=>?_
  grind [jY,zD,jS,restr,cF]
theorem zO (N:Nat) (K Ks z u:List Nat) (A:K0.all (K.contains ·)=true) (S:Nat->List (Nat×AV)->List (Nat×xW)->St)
  (h:jY K (zD st.h) st.tm z λT=>jS K (zD st.h) Ks λU=>restr K u st=S 0 T U/\(∀i,i<N->uD P F m c (S i T U) (cF Q λs=>restr K u s=S (i+1) T U))/\
   uD P F m c (S N T U) (cF Q λ_=>False)):uD P F m (.loop c) st Q:=by
 refine yU N K Ks z u A (λi T U s=>s=S i T U) ?_
 grind
theorem gD (N:Nat) (K Ks A u:List Nat) (B:K0.all (K.contains ·)=true) (I:Nat->List (Nat×AV)->List (Nat×xW)->St->Prop)
  (h:jY K (zD st.h) st.tm A λT=>jS K (zD st.h) Ks λU=>I N T U (restr K u st)/\∀n s,I n T U s->uD P F m c s (cF Q λs=>∃z,z<n/\I z T U (restr K u s))):uD P F m (.loop c) st Q:=by
 rw[dS,kV]at h;generalize (A.map _)=T at h;generalize (Ks.filterMap _)=U at h;obtain⟨h0,h1⟩:=h;refine wP (λn s=>I n T U s) N K u B h0 λn s C=>(h1 n s C).mono λe G E=>?_
 grind [jY,zD,jS,restr,cF]
theorem zU {α:Type} (l:List α) (K Ks z u:List Nat) (A:K0.all (K.contains ·)=true) (S:Nat->List α->List (Nat×AV)->List (Nat×xW)->St)
  (h:jY K (zD st.h) st.tm z λT=>jS K (zD st.h) Ks λU=>restr K u st=S 0 [] T U/\
   (∀i f4 x post,l=f4++x::post->ln f4=i->uD P F m c (S i f4 T U) (cF Q λs=>restr K u s=S (i+1) (f4++[x]) T U))/\
   uD P F m c (S (ln l) l T U) (cF Q λ_=>False)):uD P F m (.loop c) st Q:=by
 refine zO (ln l) K Ks z u A (λi T U=>S i (l.take i) T U) ?_;rw[dS,kV]at h⊢
 grind [jY,zD,jS,restr,cF,List.drop_eq_getElem_cons,List.take_append_drop,List.take_append_getElem]
theorem uX {α:Type} (l:List α) (K Ks z u:List Nat) (A:K0.all (K.contains ·)=true) (I:Nat->List α->List (Nat×AV)->List (Nat×xW)->St->Prop)
  (h:jY K (zD st.h) st.tm z λT=>jS K (zD st.h) Ks λU=>I 0 [] T U (restr K u st)/\
   (∀i f4 x post s,l=f4++x::post->ln f4=i->I i f4 T U s->uD P F m c s (cF Q λs=>I (i+1) (f4++[x]) T U (restr K u s)))/\
   ∀s,I (ln l) l T U s->uD P F m c s (cF Q λ_=>False)):uD P F m (.loop c) st Q:=by
 refine yU (ln l) K Ks z u A (λi T U s=>I i (l.take i) T U s) ?_;rw[dS,kV]at h⊢
 grind [jY,zD,jS,restr,cF,List.drop_eq_getElem_cons,List.take_append_drop,List.take_append_getElem]
end
section
variable {α:Type} {l f4 post:List α} {x:α} {i:Nat}
def zX (h:l=f4++x::post) (hi:ln f4=i):i<ln l:=by subst h;simp;omega
def yJ {β:Type} (f:α->β) (h:l=f4++x::post) (hi:ln f4=i):(l.map f)[i]? =some (f x):=by subst h;subst hi;simp
def xA (h:l=f4++x::post):x∈l:=by subst h;simp
def zA {β:Type} (f:α->β) (l:List α):(l.map f).length=ln l:=by simp
def yM (f:α->AV) (l:List α) (h:∀x,(f x).cells.length=n):∀y,(l.map f)[0]? =some y->ln y.cells=n:=λy u=>by
 rw[zAz,zBa]at u;obtain⟨x,_,rfl⟩:=u;exact h x
end
def Z2 (TT:List TI) (z:List (Nat×AV)):Op->Option (List AV)
 | .buildSlice T len u=>match TT[T]? with
  | some ti=>match ti.d with
   | .slice e=>match TT[e]? with
    |some te=>bif cN 0 (u.toList.map (·.1))&&(Nat.beq (ln u.toList) len&&(Nat.ble 1 te.size&&(Nat.ble (len*te.size) 65536&&Nat.beq (ln te.zero) te.size)))then
     QJ (u.toList.map λp=>yX (zK z) p.2) λxs=>bif xs.all (λx=>Nat.beq (ln x.cells) te.size&&(x.ok&&x.nokey))then some xs else none else none
    |none=>none
   |_=>none
  |none=>none
 |_=>none
section
variable {P:Program} {TT:List TI} (hP:uZ P TT) {tm:List (Nat×AV)} {h:List (Nat×xW)}
include hP in
def Dc {xs:List AV} (u:Z2 TT tm op=some xs):wX P ⟨tm,h⟩ op (.sl true xs) [] [] []:=by
 unfold Z2 at u;split at u
 .rename_i T len A;split at u
  .rename_i ti hT;split at u
   .rename_i e hd;split at u
    .rename_i te B;rw[gQ]at u
     cases hc:(cN 0 (A.toList.map (·.1))&&(Nat.beq (ln A.toList) len&&(Nat.ble 1 te.size&&(Nat.ble (len*te.size) 65536&&Nat.beq (ln te.zero) te.size))))with
     |false=>rw[hc]at u;cases u
     | true=>
      rw[hc]at u;simp only[zB6]at u;generalize z:(A.toList.map λp=>yX (zK tm) p.2)=ys at u
      cases C:ys.all (λx=>Nat.beq (ln x.cells) te.size&&(x.ok&&x.nokey))with
      |false=>simp[C]at u
      | true=>
       simp only[C,zB6,zCd]at u;subst u;simp only[zA2]at hc;obtain⟨E,G,I,M,O⟩:=hc;refine QP hP hT hd B I ?_ (by rw[<-z];simpa using G) C M O;rw[<-z];apply zB0;intro j;simp only[bL,zAz,zEv,zB7]
       cases hj:A.toList[j]? with
       |none=>simp
       |some p=>
        have:=WU _ 0 E j p.1 (by simp[hj]);simp[this]
    .cases u
   .cases u
  .cases u
 .cases u
end
theorem wX.wkS {xs:List AV} {d:List (Nat×xW)} {r nw:List Nat} (C:wX P st op (.sl true xs) d r nw):wX P st op (.sl false xs) d r nw:=
 ⟨λX E h h1 h2 A o a w β B u z=>by
  have:=C.run X E h h1 h2 A o a w β B u z;unfold aG at this⊢;split at this
  .obtain⟨β',G,hv⟩:=this;exact⟨β',G,hv.wk⟩
  .obtain⟨β',G,hv⟩:=this;exact⟨β',G,hv.wk⟩
  .exact this.mono λe w' ⟨c,he,β',G,hv⟩=>⟨c,he,β',G,hv.wk⟩
  .exact this.elim⟩
def Qu (y:AV) (off:Nat) (cs:List AV):Option AV:=match y with
 | .agg u=>QJ (UM u off cs) λl=>some (.agg l)
 |_=>match cs with
  | [v]=>wj v some
  |_=>none
theorem Pu {y:AV} {cs:List AV} {v:AV} (h:Qu y off cs=some v):HV y off cs=v:=by
 unfold Qu at h
 grind [Qu,HV,gQ,Option.some.inj,ZH]
section
variable {P:Program} {TT:List TI} {K0:List Nat} {F:Fr K0} {m:Nat} {ops:Array Oper} {rest:List Oper} {Q:List FP->St->Prop} {tm:List (Nat×AV)} {h:List (Nat×xW)} {dr:Bool} {fs:List FP}
variable {ty:Nat} {pos:String} {after:Array Edge} {t:Nat}
def yH {u:Array (Nat×Operand)} (hk:yN P F m ops dr (⟨some t,.buildSlice T len u,ty,pos,after,none⟩::rest) st fs Q):yN P F m ops dr (⟨some t,.buildSlice T len u,ty,pos,after,none⟩::rest) st fs Q:=hk
def fP {y:Operand} (hk:yN P F m ops dr (⟨some t,.makeSlice T x y,ty,pos,after,none⟩::rest) st fs Q):yN P F m ops dr (⟨some t,.makeSlice T x y,ty,pos,after,none⟩::rest) st fs Q:=hk
def Vn (hk:yN P F m ops dr (⟨some t,.nilCheck x,ty,pos,after,none⟩::rest) st fs Q):yN P F m ops dr (⟨some t,.nilCheck x,ty,pos,after,none⟩::rest) st fs Q:=hk
def Of {x:Nat} {u:Array Nat} (hk:yN P F m ops dr (⟨some t,.call ⟨.value (.tmp x),asq,u⟩,ty,pos,after,none⟩::rest) st fs Q):yN P F m ops dr (⟨some t,.call ⟨.value (.tmp x),asq,u⟩,ty,pos,after,none⟩::rest) st fs Q:=hk
def vC (u:uZ P TT) {xs:List AV} (z:Z2 TT tm op=some xs) (A:Nat.blt t m=true) (hk:yN P F m ops dr rest ⟨(t,.sl false xs)::tm,h⟩ (⟨true,[],[]⟩::fs) Q):
 yN P F m ops dr (⟨some t,op,ty,pos,after,none⟩::rest) ⟨tm,h⟩ fs Q:=wM (Dc u z).wkS A hk
def kX (B:uZ P TT) {A:AV} {ys:List AV} (M:yX (zK tm) s= .s (.slice none 0 0)) (hx:yX (zK tm) x=A) (hT:TT[T]? =some ti) (hd:ti.d= .slice e) (C:TT[e]? =some te)
 (z:CR (zD h) A=some ys) (u:∀y,ys[0]? =some y->ln y.cells=te.size) (I:Nat.ble 1 te.size=true) (hb:Nat.ble te.bytes 65536=true) (O:Nat.beq (ln te.zero) te.size=true) (G:ln ys<=1073741824) (E:Nat.blt t m=true)
 (hk:yN P F m ops dr rest ⟨(t,.sl false ys)::tm,h⟩ (⟨true,[],PK A⟩::fs) Q):yN P F m ops dr (⟨some t,.call ⟨.builtin .append, #[s,x], #[T,T]⟩,ty,pos,after,none⟩::rest) ⟨tm,h⟩ fs Q:=
 wM (QM B M hx hT hd C z u I hb O G) E hk
def xG (kn:Nat) (G:uZ P TT) {E:AV} {ys:List AV} (S:yX (zK tm) s= .s (.slice none 0 0)) (hx:yX (zK tm) x=E) (hT:TT[T]? =some ti) (hd:ti.d= .slice e) (I:TT[e]? =some te)
 (B:CR (zD h) E=some ys) (A:∀y,ys[0]? =some y->ln y.cells=te.size) (R:Nat.ble 1 te.size=true) (hb:Nat.ble te.bytes 65536=true) (U:Nat.beq (ln te.zero) te.size=true) (O:ln ys<=1073741824) (M:Nat.blt t m=true) (u:(zD h kn).isNone=true)
 (z:te.size=sz) (hk:yN P F m ops dr rest ⟨(t,.ref kn 0 (ln ys))::tm,(kn,.arr sz ys false)::h⟩ (⟨true,[kn,kn],PK E⟩::fs) Q) (C:te.zero.all (·.oneCell')=true:=by rfl):yN P F m ops dr (⟨some t,.call ⟨.builtin .append, #[s,x], #[T,T]⟩,ty,pos,after,none⟩::rest) ⟨tm,h⟩ fs Q:=by
 subst z;exact uU (nw:=[kn]) (ZL G kn S hx hT hd I B A R hb U C O) M (Mb u) Z hk
def vA (E:uZ P TT) {k:Nat} {C:AV} {ys:List AV} (R:yX (zK tm) s= .ref k 0 0) (hk:zD h k=some (.arr sz [] ⟨sb,false⟩)) (hx:yX (zK tm) x=C) (hT:TT[T]? =some ti) (hd:ti.d= .slice e) (G:TT[e]? =some te)
 (A:CR (zD h) C=some ys) (z:∀y,ys[0]? =some y->ln y.cells=sz) (u:Nat.beq sz te.size=true) (hb:Nat.ble te.bytes 65536=true) (S:Nat.beq (ln te.zero) te.size=true) (M:ln ys<=1073741824) (I:Nat.blt t m=true)
 (O:yN P F m ops dr rest ⟨(t,.ref k 0 (ln ys))::tm,(k,.arr sz ys false)::h⟩ (⟨true,[k],k::PK C⟩::fs) Q) (B:te.zero.all (·.oneCell')=true:=by rfl):yN P F m ops dr (⟨some t,.call ⟨.builtin .append, #[s,x], #[T,T]⟩,ty,pos,after,none⟩::rest) ⟨tm,h⟩ fs Q:=
 uU (nw:=[]) (wR (xs:=[]) false false E R hk hx hT hd G (λ_=>rfl) A z u hb S B (by simpa using M) (λ_=>rfl)) I Z Z O
def wA (E:uZ P TT) {k:Nat} {C:AV} {ys:List AV} (R:yX (zK tm) s= .ref k 0 0) (hk:zD h k=some (.arr sz [] sl)) (hx:yX (zK tm) x=C) (hT:TT[T]? =some ti) (hd:ti.d= .slice e) (G:TT[e]? =some te)
 (A:UR true (zD h) C=some ys) (z:∀y,ys[0]? =some y->ln y.cells=sz) (u:Nat.beq sz te.size=true) (hb:Nat.ble te.bytes 65536=true) (S:Nat.beq (ln te.zero) te.size=true) (M:ln ys<=1073741824) (I:Nat.blt t m=true)
 (O:yN P F m ops dr rest ⟨(t,.ref k 0 (ln ys))::tm,(k,.arr sz ys ⟨false,true⟩)::h⟩ (⟨true,[k],k::PK C⟩::fs) Q) (B:te.zero.all (·.oneCell')=true:=by rfl):yN P F m ops dr (⟨some t,.call ⟨.builtin .append, #[s,x], #[T,T]⟩,ty,pos,after,none⟩::rest) ⟨tm,h⟩ fs Q:=
 uU (nw:=[]) (wR (xs:=[]) false true E R hk hx hT hd G (λh=>by cases h) A z u hb S B (by simpa using M) (λ_=>rfl)) I Z Z O
def Cc (I:uZ P TT) {p:Operand} {k:Nat} {xs:List AV} {y v A:AV} {u:Bool} (O:yX (zK tm) p= .ptr k i off) (hx:yX (zK tm) x=v) (hk:zD h k=some (.arr sz xs ⟨false,u⟩)) (S:xs[i]? =some y) (hT:TT[T]? =some ti)
 (h1:v.ok=true) (h2:Nat.beq (ln v.cells) ti.size=true) (B:Nat.ble (off+ti.size) (ln y.cells)=true) (C:(u||v.nokey)=true) (E:Nat.ble 1 ti.size=true) (G:v.cells.all (λv=>!v.isAgg)=true) (M:Qu y off v.cells=some A)
 (R:yN P F m ops dr rest ⟨tm,(k,.arr sz (xs.set i A) ⟨false,u⟩)::h⟩ (⟨true,[k],[k]⟩::fs) Q):yN P F m ops dr (⟨none,.store T p x,ty,pos,after,none⟩::rest) ⟨tm,h⟩ fs Q:=by
 have z:=WB (st:=⟨tm,h⟩) I O hx hk S hT h1 h2 B C E G;rw[Pu M]at z;exact L9 (nw:=[]) z Z Z R
theorem Un (I:uZ P TT) {p:Operand} {k:Nat} {xs z cs:List AV} {u:Bool} (M:yX (zK tm) p= .ptr k i 0) (hx:yX (zK tm) x= .agg cs) (hk:zD h k=some (.arr sz xs ⟨false,u⟩)) (R:xs[i]? =some (.agg z)) (hT:TT[T]? =some ti)
 (h2:Nat.beq (ln cs) ti.size=true) (B:Nat.beq ti.size (ln z)=true) (C:(u||(AV.agg cs).nokey)=true) (E:Nat.ble 1 ti.size=true) (G:cs.all (λv=>!v.isAgg)=true)
 (O:yN P F m ops dr rest ⟨tm,(k,.arr sz (xs.set i (.agg cs)) ⟨false,u⟩)::h⟩ (⟨true,[k],[k]⟩::fs) Q):yN P F m ops dr (⟨none,.store T p x,ty,pos,after,none⟩::rest) ⟨tm,h⟩ fs Q:=by
 have S:=zBo h2;have e3:=zBo B;have A:=WB (st:=⟨tm,h⟩) I M hx hk R hT Z (by simpa [AV.cells]using h2) (zD8 (by simp[AV.cells];omega)) C E G
 have:HV (.agg z) 0 (AV.agg cs).cells= .agg cs:=by
  unfold HV AV.cells;dsimp only
  congr 1
  apply zB0;intro j;rw[YW _ _ _ _ (by omega)]
  grind
 rw[this]at A;exact L9 (nw:=[]) A Z Z O
theorem wK.nsplit (H:wK F m ⟨tm,h⟩ a w) {t:Nat} {xs:List AV} (hv:zK tm t= .sl false xs):(∃cap,xs=[]/\wK F m ⟨(t,.s (.slice none 0 cap))::tm,h⟩ a w)\/wK F m ⟨(t,.sl true xs)::tm,h⟩ a w:=by
 obtain⟨⟨X,β,E,z,A,B,M,C⟩,I,gs,hl⟩:=H
 have key:∀v,(∀i,v≠ .gh i)->yI w (xT X β) (zD h) β v (a.eval (.tmp t))->wK F m ⟨(t,v)::tm,h⟩ a w:=λv O hv=>by
  refine⟨⟨X,β,E,z,λj=>?_,B,λi hi=>?_,C⟩,I,gs,hl⟩
  all_goals grind [wK,zK,xF]
 have h0:=A t;dsimp only at h0;rw[hv]at h0;generalize hc:a.eval (.tmp t)=c at*
 cases h0 with
 | fz _ _ G=>
  cases G with
  |nil b cap=>
   cases b with
   |none=>exact .inl ⟨cap,rfl,key _ (λ_ h=>by cases h) (.fz _ _ (.s _))⟩
   |some b=>exact .inr (key _ (λ_ h=>by cases h) (.fz _ _ (.nil1 b cap)))
  |sl _ _ b o sz cap f hx hL u hh=>exact .inr (key _ (λ_ h=>by cases h) (.fz _ _ (.sl true _ b o sz cap f hx hL u hh)))
def xH {Q:Exit->St->Prop} (t:Nat) {xs:List AV} (hv:zK tm t= .sl false xs) (h1:∀cap,xs=[]->uD P F m c ⟨(t,.s (.slice none 0 cap))::tm,h⟩ Q) (h2:uD P F m c ⟨(t,.sl true xs)::tm,h⟩ Q):uD P F m c ⟨tm,h⟩ Q:=
 ⟨λa w H=>by
  rcases H.nsplit hv with⟨cap,hx,u⟩|z
  .exact(h1 cap hx).run a w u
  .exact h2.run a w z⟩
end
section
variable {P:Program} {K0:List Nat} {F:Fr K0} {m:Nat} {tm:List (Nat×AV)} {h:List (Nat×xW)}
def Bc {h:yS} (H:jL X h β w) {K:Nat} (C:h K=none) (G:1<=sz):xU X w h β w (over [(K,.arr sz [] false)] h) (cY β K []):=
 xU.step H K _ _ (zAw _) (λ_ _ _=>rfl) Z Z Z (λb n u=>by simp at u) (λ_ _ _=>rfl) (λe A=>by rw[C]at A;cases A) (λE=>⟨G,by simp,λh=>absurd Z h,λi y z=>by simp at z,
  λb n r B=>by rw[yL]at B;simp at B,λ_ _=>undef,λi y j v z _=>by simp at z,λi j hi _=>by simp at hi,λb n u=>by rw[yL]at u;simp at u⟩)
theorem wK.virtF (H:wK F m ⟨tm,h⟩ a w) (t K sz:Nat) {cap:Nat} (hv:zK tm t= .s (.slice none 0 0)) (I:(zD h K).isNone=true) (O:Nat.ble 1 sz=true):wK F m ⟨(t,.ref K 0 0)::tm,(K,.arr sz [] false)::h⟩ a w:=by
 obtain⟨⟨X,β,M,z,A,B,E,C⟩,S,gs,hl⟩:=H;have hk:zD h K=none:=by simpa using I
 have G:=Bc z hk (zA8 O);have u:∀k,over [(K,.arr sz [] false)] (zD h) k≠some .dead:=eO Z S
 have R:WK F m (zK ((t,.ref K 0 0)::tm)) (over [(K,.arr sz [] false)] (zD h)) a w:=by
  refine⟨⟨X,_,M,G.hok,λj=>?_,B.goes G u (G.lives z u),λi hi=>?_,C.goes z G⟩,u,gs,hl⟩
  .rw[xF];split
   .rename_i hj;subst hj;have:=A j;rw[hv]at this;rw[this.s_inv];exact .ref0 K 0 sz [] false none (qU _ _ _) (zAw _)
   .exact(A j).evo G.evo
  .rw[xF]at hi;split at hi
   .cases hi
   .exact F.go G (E i hi)
 unfold wK;dsimp only;rw[show zD ((K,.arr sz [] false)::h)=over [(K,.arr sz [] false)] (zD h)from vD [(K,.arr sz [] false)] h];exact R
def qH (t K sz:Nat) (hv:zK tm t= .s (.slice none 0 0)) (u:(zD h K).isNone=true) (z:Nat.ble 1 sz=true) (hk:uD P F m c ⟨(t,.ref K 0 0)::tm,(K,.arr sz [] false)::h⟩ Q):uD P F m c ⟨tm,h⟩ Q:=
 ⟨λa w H=>hk.run a w (H.virtF (cap:=0) t K sz hv u z)⟩
end
structure aW (X X':Nat->Prop) (W W':World):Prop where
 size:W.heap.size<=W'.heap.size
 fz:∀b,b<W.heap.size->¬X b->W'.heap[b]? =W.heap[b]? /\¬X' b
 sup:∀b,X b->X' b
 lt:∀b,X' b->b<W'.heap.size
 os:W'.os=W.os
 tape:W'.tape=W.tape
 output:W'.output=W.output
def c9 (P:Program) (F:Fr K0) (l:Nat) (xs:List (List AV)):Prop:=
 ∀(i:Nat) (ys:List AV) (X O:Nat->Prop) (W:World) (cs:Array Value),xs[i]? =some ys->F.J i O X W->cs.size=ln ys->(∀(j:Nat) v,ys[j]? =some v->xM W (λb=>X b\/O b) v (cs.getD j undef))->
  YieldAt Fence.wide 0 P l cs W λe u=>(e= .returned (.bool true)/\∃X',aW X X' W u/\F.J (i+1) O X' u)\/(e= .returned (.bool false)/\∃X',aW X X' W u/\F.J (ln xs+1+i) O X' u)
section
variable {X X':Nat->Prop} {W W':World} {h:yS} {β:uM}
theorem aW.evo (H:jL X h β W) (q:aW X X' W W'):EG W (xT X β) h β W' (xT X' β) h β:=
 ⟨q.size,λb hb hd=>⟨(q.fz b hb λhx=>hd (.inl hx)).1,λh'=>h'.elim (q.fz b hb λhx=>hd (.inl hx)).2 λz=>hd (.inr z)⟩,λk b n u=>by
  unfold wO World.shape?
  rw[(q.fz b (H.lt b (.inr ⟨k,n,u⟩)) (H.free k b n u)).1],jA h β⟩
theorem aW.hok (H:jL X h β W) (q:aW X X' W W'):jL X' h β W':=
 ⟨λk e z=>(H.ent k e z).evo (q.evo H) Z λb n u=>(q.fz b (H.lt b (.inr ⟨k,n,u⟩)) (H.free k b n u)).1,H.off,H.disj,λk b n u=>(q.fz b (H.lt b (.inr ⟨k,n,u⟩)) (H.free k b n u)).2,
  λb hd=>hd.elim (q.lt b) λA=>zBy (H.lt b (.inr A)) q.size⟩
end
section
variable {P:Program} {K0:List Nat} {F:Fr K0} {m:Nat} {ops:Array Oper} {rest:List Oper} {tm:List (Nat×AV)} {h:List (Nat×xW)}
theorem WK.quiet {X':Nat->Prop} {hh:yS} {t:Nat->AV} {W A:World} {j:Nat} (G:F.it=true) (U:∀b,F.X b->F.V b) (B:F5 F X) (H:jL X hh β W) (R:∀s,yI W (xT X β) hh β (t s) (a.eval (.tmp s))) (u:fB F hh β W) (S:Yz X F a.defers W) (nd:∀k,hh k≠some .dead) (gs:m<=GS) (hl:a.tmps.size=m)
 (q:aW X X' W A) (hj:F.J j (Bg β) X' A) (d:Nat) (hd:d<m) (b:Bool):WK F m (λs=>if s=GS then .gh j else if s=d then .s (.bool b)else t s) hh (a.put (some d) (.bool b)) A:=by
 have E:=q.evo H;refine⟨⟨X',β,⟨λc hc=>q.sup c (B.1 c hc),λc hc=>?_⟩,q.hok H,λs=>?_,?_,λi hi=>?_,?_⟩,nd,gs,by simp[Act.put,hl]⟩
 .by_cases hb:c<W.heap.size
  .by_cases z:X c
   .exact B.2 c z
   .exact absurd hc (q.fz c hb z).2
  .exact .inr (zBw u.size (Nat.le_of_not_lt hb))
 .split
  .exact .fz _ _ (.gh _ _)
  .split
   .rename_i M;subst M;have:s<a.tmps.size:=by rw[hl];exact hd
    have e:(a.put (some s) (.bool b)).eval (.tmp s)= .bool b:=by simp[Act.put,Act.eval,this]
    rw[e];exact .fz _ _ (.s _)
   .rename_i M;rw[Act.eval_put (λd' C e=>M (by cases C;injection e with e))];exact(R s).evo E
 .exact⟨u.knd,zBw u.size q.size,λc hc hi Y=>by
   have h1:¬X c:=λhx=>(B.2 c hx).elim (λh=>hi (U c h)) λh=>by omega
   rw[(q.fz c (zBy hc u.size) h1).1]
   exact u.keep c hc hi Y,u.own,u.pas,λk c n O=>by
   obtain⟨n',_,I⟩:=u.pas k c n O
   rw[E.bs k c n' I,u.bs k c n O],q.os.trans u.os,q.tape.trans u.tape,q.output.trans u.output⟩
 .grind
 .obtain⟨bs,h1,h0,h2,h3⟩:=S;have:=h0 G;subst this;exact⟨[],h1,λ_=>rfl,h2,λb hb=>by simp at hb⟩
def Eh {xs:List (List AV)} {ys:List AV} {l y t ty:Nat} {C:Array Nat} {pos:String} {u:Array Edge} {Q:St->Prop} (z:F.it=true/\∀b,F.X b->F.V b) (hY:c9 P F l xs) (hy:zK tm y= .s (.func (.yield l) #[] #[])) (hg:zK tm GS= .gh i) (U:xs[i]? =some ys)
 (B:asq.toList.map (yX (zK tm))=ys) (M:vI ys=true) (hm:Nat.blt t m=true)
 (h1:HA P F m ops rest ⟨(GS,.gh (i+1))::(t,.s (.bool true))::tm,h⟩ Q) (h2:HA P F m ops rest ⟨(GS,.gh (ln xs+1+i))::(t,.s (.bool false))::tm,h⟩ Q):
  HA P F m ops (⟨some t,.call ⟨.value (.tmp y),asq,C⟩,ty,pos,u,none⟩::rest) ⟨tm,h⟩ Q:=λa w H=>by
 obtain⟨⟨X,β,hX,Y,I,KK,hJ,hD⟩,nd,gs,hl⟩:=H;have hj:=hJ i hg
 have W:a.eval (.tmp y)= .func (.yield l) #[] #[]:=by
  have:=I y;dsimp only at this;rw[hy]at this;exact this.s_inv
 have E:ln asq.toList=ln ys:=by rw[<-B];simp
 obtain⟨fn,tmps,assign,body,G,A⟩:=hY i ys X (Bg β) w (asq.map a.eval) U hj (by simpa using E) (λj v hv=>by
  rw[<-B,zAz,zBa]at hv;obtain⟨x,hx,rfl⟩:=hv;have S:asq[j]? =some x:=by simpa using hx
  have e:(asq.map a.eval).getD j undef=a.eval x:=by simp[zBu,S]
  rw[e];have O:(ys[j]?)=some (yX (zK tm) x):=by rw[<-B];simp[hx]
  exact(PF I x).toF (jM M O))
 refine wpListIn_plain Z λK hK=>⟨λ_ _=>trivial,?_⟩
 have he:((⟨some t,.call ⟨.value (.tmp y),asq,C⟩,ty,pos,u,none⟩:Oper).semAt (DO F.ro).round a.eval).run P w= .ok (.round l fn tmps assign body) w:=by
  rw[Oper.semAt_eq _ _ _ (λc hc=>by cases hc)];rw[<-G];simp[execOp,resolve,W,Deferred.ofValue,invoke]
 rw[he];refine⟨λhx=>by simp[DO,Fence.wide]at hx,?_⟩;refine RoundIn.mono (F:=Fence.wide) A ?_;rintro e W' (⟨rfl,X',q,hj'⟩|⟨rfl,X',q,hj'⟩)
 .refine hK _ _ (h1 _ _ ?_);have R:=WK.quiet z.1 z.2 hX Y I KK hD nd gs hl q hj' t (zA8 hm) true;unfold wK;refine R.congr (λs=>?_) (λ_=>rfl);rw[xF,xF]
 .refine hK _ _ (h2 _ _ ?_);have R:=WK.quiet z.1 z.2 hX Y I KK hD nd gs hl q hj' t (zA8 hm) false;unfold wK;refine R.congr (λs=>?_) (λ_=>rfl);rw[xF,xF]
def GY {xs:List (List AV)} {ys:List AV} {l y t ty:Nat} {z:Array Nat} {pos:String} {u:Array Edge} {fs:List FP} {Q:List FP->St->Prop} (A:F.it=true/\∀b,F.X b->F.V b) (G:c9 P F l xs) (O:zK tm y= .s (.func (.yield l) #[] #[])) (I:zK tm GS= .gh i) (E:xs[i]? =some ys)
 (C:asq.toList.map (yX (zK tm))=ys) (B:vI ys=true) (M:Nat.blt t m=true)
 (h1:yN P F m ops false rest ⟨(GS,.gh (i+1))::(t,.s (.bool true))::tm,h⟩ fs Q) (h2:yN P F m ops false rest ⟨(GS,.gh (ln xs+1+i))::(t,.s (.bool false))::tm,h⟩ fs Q):
 yN P F m ops false (⟨some t,.call ⟨.value (.tmp y),asq,z⟩,ty,pos,u,none⟩::rest) ⟨tm,h⟩ fs Q:=⟨Eh A G O I E C B M h1.run h2.run⟩
end
structure TL (P:Program) (f:Nat) (caps:List AV) (h0:List (Nat×xW)) (xs:List (List AV)):Prop where
 able:bH P f
 sim:∀(l:Nat) (cv:Array Value) (F:Fr (xB h0)),(F.it=true/\∀b,F.X b->F.V b)->F.ro=none->F.h0=zD h0->cv.size=caps.length->jL F.X (zD h0) F.β0 F.w0->(∀(i:Nat) v,caps[i]? =some v->yI F.w0 (xT F.X F.β0) (zD h0) F.β0 v (cv.getD i undef))->
  F.J 0 (Bg F.β0) F.X F.w0->c9 P F l xs->Calls P f (#[.func (.yield l) #[] #[]]++cv) F.w0 λe w'=>(∃v,e= .returned v)/\∃i O X,F.J i O X w'/\(i=xs.length\/xs.length<i)
def Y2 (n:Nat) (e:Exit) (st:St):Prop:=(e= .normal\/e= .ret)/\∃i,zK st.tm GS= .gh i/\(i=n\/n<i)
def TM (h:zK st.tm GS= .gh i) (hi:i=n\/n<i):Y2 n .ret st:=⟨.inr Z,i,h,hi⟩
def ZT (h:zK st.tm GS= .gh i) (hi:i=n\/n<i):Y2 n .normal st:=⟨.inl Z,i,h,hi⟩
theorem VN {f:Nat} {fn:Func} {u:List AV} {xs:List (List AV)} (hf:P.funcs[f]? =some fn) (hb:fn.body=some body) (C:bH P f) (z:Nat.ble (ln u+1) fn.ntmps=true) (R:fn.results= #[])
 (M:vX h0=true) (h:∀(F:Fr (xB h0)) (l:Nat),F.ro=none->(F.it=true/\∀b,F.X b->F.V b)->c9 P F l xs->uD P F fn.ntmps body ⟨(GS,.gh 0)::UE 0 (.s (.func (.yield l) #[] #[])::u),h0⟩ (Y2 (ln xs))) (ag:Nat.ble fn.ntmps GS=true:=by rfl):TL P f u h0 xs:=by
 refine⟨C,λl E F I S ap ar H A hj hY=>(callsIn_wide (n:=0)).1 ?_⟩;have z:=zA8 z;have hw:∀(c:Code) Q a w,c.wpIn (DO F.ro) 0 P Q a w->c.wpIn Fence.wide 0 P Q a w:=λc Q a w h=>by rw[S]at h;exact h
 refine callsIn_of_wp_marks (F:=Fence.wide) (n:=0) hf hb trivial (hw _ _ _ _ (Code.wpIn_mono (λe a' w1 q=>?_) ((h F l S I hY).run _ F.w0 ⟨⟨F.X,F.β0,⟨λ_ h=>h,λ_ h=> .inl h⟩,H,λt=>?_,⟨λk e B=>?_,zAw _,λ_ _ _ _=>rfl,λk b n hm=> .inl ⟨k,n,hm⟩,λk b n hm=>⟨n,zAw _,hm⟩,λ_ _ _ _=>rfl,rfl,rfl,rfl⟩,λi hi=>?_,[],rfl,λ_=>rfl,zFj,λb hb=>by simp at hb⟩,λk=>qG M,zA8 ag,?_⟩))) Z
 .obtain⟨st,⟨B,i,hi,hn⟩,⟨⟨X2,β2,_,_,_,_,U,bs,ac,Y,_⟩,_,_,_⟩⟩:=q;have W:=Y I.1;subst W
  have G:LeavesInM Fence.wide 0 P fn a'.tmps (λe w'=>(∃v,e= .returned v)/\∃i O X,F.J i O X w'/\(i=ln xs\/xs.length<i)) a'.defers .returning w1:=by
   rw[ac];refine⟨.tuple #[],by simp[results,R],⟨_,rfl⟩,i,_,_,U i hi,hn⟩
  rcases B with rfl|rfl
  all_goals exact G
 .dsimp only;rw[xF];split
  .exact .fz _ _ (.gh _ _)
  .rw [WN,f5 (zA9 _),zFg]
   cases t with
   | zero=>
    have e:Act.eval {tmps:= #[Value.func (.yield l) #[] #[]]++E++Array.replicate (fn.ntmps-(#[Value.func (.yield l) #[] #[]]++E).size) undef,defers:=[]} (.tmp 0)= .func (.yield l) #[] #[]:=by
     simp[Act.eval,zBu,Array.getElem?_append]
    rw[e];exact .fz _ _ (.s _)
   | succ t=>
    rw[List.getD_cons_succ];by_cases ht:t<ln u
    .have h2:u[t]? =some (u.getD t .bot):=by simp[pi,ht]
     have e:Act.eval {tmps:= #[Value.func (.yield l) #[] #[]]++E++Array.replicate (fn.ntmps-(#[Value.func (.yield l) #[] #[]]++E).size) undef,defers:=[]} (.tmp (t+1))=E.getD t undef:=by
      simp only[Act.eval,zBu];rw[zCu qA,zEt zV];simp
     rw[e];exact A t _ h2
    .have:u.getD t .bot= .bot:=by simp[pi,zB4 (by omega:ln u<=t)]
     rw[this];exact .fz _ _ (.bot _)
 .rw[ap]at B
  cases e with
  |dead=>exact absurd B (qG M)
  |box cs=>exact⟨cs,B⟩
  |obj cs=>exact⟨cs,B⟩
  |arr sz xs sl=>exact⟨xs,sl,B,zAw _⟩
 .dsimp only at hi;rw[xF,f5 Z]at hi;cases hi;exact hj
 .simp;omega
def βr (K:List Nat) (β:uM):uM:=λk=>if k∈K then β k else []
def WI {K:List Nat} (h:k∈K):βr K β k=β k:=by simp[βr,h]
theorem kM {K:List Nat} {b:Nat} (h:(b,n)∈βr K β k):k∈K/\(b,n)∈β k:=by
 unfold βr at h
 grind
theorem zAa {Xc:Nat->Prop} (I:jL X h β w) (G:∀k,k∈xB h0->h k=zD h0 k) (z:∀k e,zD h0 k=some e->Sx (xB h0) e=true)
 (O:∀b,Xc b->X b\/∃k n,¬k∈xB h0/\(b,n)∈β k):
  jL Xc (zD h0) (βr (xB h0) β) w/\∀v c,yI w (xT X β) h β v c->(∀k,k∈v.refs->k∈xB h0)->yI w (xT Xc (βr (xB h0) β)) (zD h0) (βr (xB h0) β) v c:=by
 have B:∀k,k∈xB h0->βr (xB h0) β k=β k:=λk hk=>WI hk
 have E:∀b,xT Xc (βr (xB h0) β) b->xT X β b:=λb hd=>by
  rcases hd with hx|⟨k,n,C⟩
  .exact(O b hx).imp id λ⟨k,n,_,C⟩=>⟨k,n,C⟩
  .exact .inr ⟨k,n,(kM C).2⟩
 have A:∀v c,yI w (xT X β) h β v c->(∀k,k∈v.refs->k∈xB h0)->yI w (xT Xc (βr (xB h0) β)) (zD h0) (βr (xB h0) β) v c:=by
  intro v c hv;have ef:∀{v c},xM w (xT X β) v c->xM w (xT Xc (βr (xB h0) β)) v c:=λS=>S.evo (zAw _) λb _ hd=>⟨rfl,λh'=>hd (E b h')⟩
  induction hv with
  |fz v c S=>exact λ_=> .fz _ _ (ef S)
  |agg cs c hl h1 _ V=>exact λu=> .agg cs c hl h1 λi v hv=>V i v hv λk hk=>u k (by simpa [AV.refs]using wS hv hk)
  |fn f M c hl _ V=>exact λu=> .fn f M c hl λi v hv=>V i v hv λk hk=>u k (by simpa [AV.refs]using wS hv hk)
  |tup vs c hl _ V=>exact λu=> .tup vs c hl λi v hv=>V i v hv λk hk=>u k (by simpa [AV.refs]using wS hv hk)
  |dref k off len c hk h1=>exact λu=> .dref _ _ _ _ ((G k (u k (by simp[AV.refs])))▸hk) h1
  |dptr k i off c hk h1=>exact λu=> .dptr _ _ _ _ ((G k (u k (by simp[AV.refs])))▸hk) h1
  |ref k off len sz xs st b n cap hk hb U hc hs=>exact λu=> .ref k off len sz xs st b n cap ((G k (u k (by simp[AV.refs])))▸hk) (by rw[B k (u k (by simp[AV.refs]))];exact hb) U hc hs
  |ref0 k off sz xs st a hk U=>exact λu=> .ref0 k off sz xs st a ((G k (u k (by simp[AV.refs])))▸hk) U
  |pbox k off cs b n hk hb=>exact λu=> .pbox k off cs b n ((G k (u k (by simp[AV.refs])))▸hk) (by rw[B k (u k (by simp[AV.refs]))];exact hb)
  |parr k i off sz xs st b n hk hb hi ho=>exact λu=> .parr k i off sz xs st b n ((G k (u k (by simp[AV.refs])))▸hk) (by rw[B k (u k (by simp[AV.refs]))];exact hb) hi ho
 refine⟨⟨λk e R=>?_,λk R=>?_,λk k' b n n' q1 q2=>I.disj _ _ _ _ _ (kM q1).2 (kM q2).2,λk b n C hx=>?_,λb hd=>I.lt b (E b hd)⟩,A⟩
 .have hk:=uF R
  refine(I.ent k e ((G k hk).trans R)).lift (B k hk) (λcs W i v c hi hv=>A v c hv λj hj=>by
   have:=z k e R;rw[W]at this
   simpa using zA5.1 this j (wS hi hj)) λsz xs fl Y i x j v c hi hj=>⟨λS=>S.evo (zAw _) λb _ hd=>⟨rfl,λh'=>hd (E b h')⟩,λU hv=>A v c hv λq hq=>by
   have:=z k e R;rw[Y]at this;simp only[Sx,U,zB6]at this
   simpa using zA5.1 this q (wS hi (WM hj hq))⟩
 .unfold βr;rw[Os];intro hk;obtain⟨e,hk⟩:=bI hk
  grind
 .obtain⟨hk,C⟩:=kM C
  rcases O b hx with hx|⟨k',n',hk',hm'⟩
  .exact I.free k b n C hx
  .exact hk' (I.disj k k' b n n' C hm'▸hk)
def RF (h:yS):Prop:=∀k sz xs u,h k=some (.arr sz xs u)->u.nest=false
def v6:List (Nat×xW)->Bool
 | []=>true
 |(_,e)::r=>match e with
  | .arr _ _ u=>!u.nest&&v6 r
  |_=>v6 r
theorem Tn:∀{h:List (Nat×xW)},v6 h=true->RF (zD h)
 | [],_,k,sz,xs,z,u=>by simp[zD]at u
 | (j,e)::r,hn,k,sz,xs,z,u=>by
  rw[xK]at u;split at u
  .cases u;simp[v6]at hn;exact hn.1
  .refine Tn (h:=r) ?_ k sz xs z u
   cases e with
   |arr _ _ _=>simp[v6]at hn;exact hn.2
   |_=>exact hn
theorem Ou (nn:RF h) (K:List Nat):∀v:AV,qZ K h v=wT K h v:=by
 intro v;refine AV.rec (motive_1:=λv=>qZ K h v=wT K h v) (motive_2:=λcs=>vK K h cs=kO K h cs) ?_ ?_ ?_ ?_ ?_ ?_ ?_ ?_ ?_ ?_ ?_ ?_ ?_ ?_ v
 .rfl
 .exact λ_=>rfl
 .exact λ_=>rfl
 .simp_all [yS,RF,qZ,wT]
 .exact λ_ _ _=>rfl
 .exact λ_ _ _=>rfl
 .intro k off len;simp only[qZ,wT]
  cases K.contains k with
  |true=>rfl
  |false=>
   simp only[zCt];split
   .rename_i xs z u;rw[nn _ _ _ _ u];rfl
   .rfl
 .intro k i off;rfl
 .exact λ_ _ _ _=>rfl
 .simp_all [yS,RF,qZ,wT]
 .simp_all [yS,RF,qZ,wT]
 .exact λ_ _=>rfl
 .rfl
 .exact λv r h1 h2=>by simp only[vK,kO];rw[h1,h2]
theorem jL.restrX {X':Nat->Prop} (H:jL X h β w) (K M:List Nat) (hx:∀b,X' b->X b\/∃k n,k∈M/\(b,n)∈β k) (O:∀k,k∈M->¬k∈K) (nn:RF h)
 (R:∀k cs,k∈K->h k=some (.box cs)->∀j,j∈jQ cs->¬j∈M):
  jL X' (zD (wU K h)) (βr K β) w/\∀v c,(∀j,j∈v.refs->¬j∈M)->yI w (xT X β) h β v c->yI w (xT X' (βr K β)) (zD (wU K h)) (βr K β) (wT K h v) c:=by
 have C:∀b,xT X' (βr K β) b->xT X β b:=λb hd=>by
  rcases hd with hb|⟨k,n,A⟩
  .exact(hx b hb).imp id λ⟨k,n,_,A⟩=>⟨k,n,A⟩
  .exact .inr ⟨k,n,(kM A).2⟩
 have hv:∀v c,(∀j,j∈v.refs->¬j∈M)->yI w (xT X β) h β v c->yI w (xT X' (βr K β)) (zD (wU K h)) (βr K β) (wT K h v) c:=λv c hr hv=>by
  rw[<-Ou nn];refine yI.fz0 H (K:=K) (λk hk e B=>?_) (λk hk=>WI hk) (λb _ hd h'=>hd (C b h')) hv λk S=>?_
  .rw[wG,f5 hk,B]
   cases e with
   |box cs=>exact⟨_,rfl⟩
   |obj cs=>exact⟨_,rfl⟩
   |arr sz xs fl=>exact⟨xs,fl,by simp only[zCn,kC,nn _ _ _ _ B,zCt],rfl⟩
   |dead=>rfl
  .by_cases hk:k∈K
   .exact .inl hk
   .refine .inr λb n A=>?_
    rintro(hb|⟨G,I,z⟩)
    .rcases hx b hb with hb|⟨G,I,hk',z⟩
     .exact H.free k b n A hb
     .exact hr k S (H.disj k G b n I A z▸hk')
    .obtain⟨hk',z⟩:=kM z;exact hk (H.disj k G b n I A z▸hk')
 have Y:∀{v c},xM w (xT X β) v c->xM w (xT X' (βr K β)) v c:=λhf=>hf.evo (zAw _) λb _ hd=>⟨rfl,λh'=>hd (C b h')⟩
 refine⟨⟨λk e B=>?_,λk B=>?_,λk G b n I h1 h2=>H.disj _ _ _ _ _ (kM h1).2 (kM h2).2,λk b n A hb=>?_,λb hd=>H.lt b (C b hd)⟩,hv⟩
 .rw[wG]at B;split at B
  .rename_i hk;rw[zBa]at B;obtain⟨U,E,rfl⟩:=B;have:=H.ent k U E
   cases U with
   |dead=>show βr K β k=[];rw[WI hk];exact this
   |box cs=>
    obtain⟨b,c,el,h1,h2,h3,h4,h5⟩:=this;refine⟨b,c,el,by rw[WI hk];exact h1,h2,by rw[vY];exact h3,h4,λi v hi=>?_⟩;rw[aD,zBa]at hi;obtain⟨u,W,rfl⟩:=hi;exact hv u _ (λj hj=>R k cs hk E j (wS W hj)) (h5 i u W)
   |obj cs=>
    exact⟨by rw[WI hk];exact this.1,this.2⟩
   |arr sz xs st=>
    obtain⟨g1,g2,g3,g4,g5,f,g6,g7,g8⟩:=this;have V:=nn _ _ _ _ E;rw[show kC K h (.arr sz xs st)= .arr sz xs st by simp only[kC,V,zCt]];exact⟨g1,g2,by rw[WI hk];exact g3,g4,by rw[WI hk];exact g5,f,.ofF λi x j v hx hy=>Y (g6.toF V i x j v hx hy),g7,by rw[WI hk];exact g8⟩
  .cases B
 .unfold βr;split
  .rename_i hk;rw[wG,f5 hk]at B
   cases hk':h k with
   |none=>exact H.off k hk'
   |some e=>simp[hk']at B
  .rfl
 .obtain⟨hk,A⟩:=kM A
  rcases hx b hb with hb|⟨G,I,hk',z⟩
  .exact H.free k b n A hb
  .exact O G hk' (H.disj k G b n I A z▸hk)
theorem Sn (K:List Nat) (h h':yS):∀v:AV,wT K h' (wT K h v)=wT K h v:=by
 intro v;refine AV.rec (motive_1:=λv=>wT K h' (wT K h v)=wT K h v) (motive_2:=λcs=>kO K h' (kO K h cs)=kO K h cs) ?_ ?_ ?_ ?_ ?_ ?_ ?_ ?_ ?_ ?_ ?_ ?_ ?_ ?_ v
 .rfl
 .exact λ_=>rfl
 .exact λ_=>rfl
 .simp_all [yS,wT]
 .exact λ_ _ _=>rfl
 .exact λ_ _ _=>rfl
 .intro k off len;simp only[wT]
  cases hc:K.contains k with
  |true=>simp only[zB6,wT,hc]
  | false=>
   simp only[zCt]
   rcases h k with _|(_|⟨_,xs,fl⟩|_|_)
   .rfl
   .rfl
   .dsimp only
    cases fl.nest with
    |false=>rfl
    |true=>
     simp only[zB6]
     cases vI (vK K h xs)<;>rfl
   .rfl
   .rfl
 .intro k i off;simp only[wT]
  cases hc:K.contains k with
  |true=>simp only[zB6,wT,hc]
  |false=>rfl
 .exact λ_ _ _ _=>rfl
 .simp_all [yS,wT]
 .simp_all [yS,wT]
 .exact λ_ _=>rfl
 .rfl
 .exact λv r h1 h2=>by simp only[kO];rw[h1,h2]
section
variable {K0:List Nat} {F:Fr K0} {h:yS} {β:uM} {w w':World} {X:Nat->Prop}
theorem fB.toGoes (R:∀b,¬F.V b) (I:jL F.X F.h0 F.β0 F.w0) (H:jL X h β w) (K:fB F h β w) (U:∀k,F.h0 k≠some .dead):xU X F.w0 F.h0 F.β0 w h β where
 size:=K.size
 keep b hb hn:=K.keep b hb (R b) hn
 own:=K.own
 bs:=K.bs
 key k e he:=by
  refine .inr ?_;have h1:=K.knd k e he
  cases e with
  |dead=>exact absurd he (U k)
  |box M=>
   obtain⟨A,h2⟩:=h1;refine⟨⟨_,h2⟩,λb n z=>?_⟩;obtain⟨S,C,u⟩:=K.pas k b n z;obtain⟨Y,_,_,B,_⟩:=H.ent k _ h2;obtain⟨W,_,_,e1,_⟩:=I.ent k _ he;rw[e1]at z;rw[B]at u⊢;simp at z u⊢;exact⟨u.1,z.2⟩
  |obj cs=>
   obtain⟨A,h2⟩:=h1;refine⟨⟨_,h2⟩,λb n z=>?_⟩;obtain⟨S,C,u⟩:=K.pas k b n z;have B:=(H.ent k _ h2).1;have e1:=(I.ent k _ he).1;rw[e1]at z;rw[B]at u⊢;simp at z u⊢;exact⟨u.1,z.2⟩
  |arr sz xs sl=>
   obtain⟨G,E,h2,O⟩:=h1;exact⟨⟨G,E,h2,O⟩,λb n z=>K.pas k b n z⟩
 hok:=H
 os:=K.os
 tape:=K.tape
 output:=K.output
theorem fB.turn (K:fB F h β w) (H:jL X h β w) (C:w'.heap.size=w.heap.size) (hk:∀b,b<w.heap.size->¬X b->w'.heap[b]? =w.heap[b]?) (hl:∀b,b<F.w0.heap.size->w'.heap[b]? =w.heap[b]?) (E:w'.os=w.os) (G:w'.tape=w.tape) (I:w'.output=w.output):fB F h β w':=
 ⟨K.knd,by rw[C];exact K.size,λb hb hi B=>by rw[hl b hb];exact K.keep b hb hi B,K.own,K.pas,λk b n z=>by
  rw[<-K.bs k b n z];obtain⟨A,_,u⟩:=K.pas k b n z;unfold wO World.shape?
  rw[hk b (H.lt b (.inr ⟨k,A,u⟩)) (H.free k b A u)],E.trans K.os,G.trans K.tape,I.trans K.output⟩
theorem fB.restr (K:fB F h β w) (Ks:List Nat) (M:∀k,k∈K0->k∈Ks):fB F (zD (wU Ks h)) (βr Ks β) w:=by
 refine⟨λk e O=>?_,K.size,K.keep,λk b n u=>K.own k b n (kM u).2,λk b n u=>?_,K.bs,K.os,K.tape,K.output⟩
 .have hk:=M k (F.hh k e O);have h1:=K.knd k e O;have C:∀A,h k=some A->zD (wU Ks h) k=some (kC Ks h A):=λA h2=>by rw[wG,f5 hk,h2];rfl
  cases e with
  |dead=>exact h1
  |box cs=>obtain⟨z,h2⟩:=h1;exact⟨_,C _ h2⟩
  |obj cs=>obtain⟨z,h2⟩:=h1;exact⟨_,C _ h2⟩
  |arr sz xs sl=>obtain⟨G,E,h2,R⟩:=h1;obtain⟨I,B,S,U⟩:=gO Ks h sz G E;exact⟨I,B,(C _ h2).trans (by rw[S]),by rw[U];exact R⟩
 .rw[WI (M k (F.hK k b n u))];exact K.pas k b n u
end
def Nf (u:List Nat) (ys:List AV) (T:List (Nat×AV)):List (Nat×AV):=(u.zip ys).foldl (λz p=>p::z) T
theorem JY :∀(u:List Nat) (ys:List AV) (cs:List Value) (T:List (Nat×AV)) (tmps:Array Value),ln ys=ln cs->(∀(j:Nat) v c,ys[j]? =some v->cs[j]? =some c->yI w D h β v c)->(∀p,p∈u->p<tmps.size)->
  (∀t,yI w D h β (zK T t) (tmps.getD t undef))->∀t,yI w D h β (zK (Nf u ys T) t) (((u.zip cs).foldl (λtmps (p:Nat×Value)=>tmps.setIfInBounds p.1 p.2) tmps).getD t undef)
 | [],ys,cs,T,tmps,_,_,_,h,t=>h t
 |p::u,[],cs,T,tmps,hl,_,_,h,t=>by
  obtain rfl:cs=[]:=zBv hl.symm;exact h t
 |p::u,y::ys,[],T,tmps,hl,_,_,h,t=>by simp at hl
 | p::u,y::ys,c::cs,T,tmps,hl,C,B,h,t=>by
  have z:=B p zV;refine JY u ys cs ((p,y)::T) (tmps.setIfInBounds p c) CD (λj v E h1 h2=>C (j+1) v E CA CB) (λq G=>by simpa using B q (by simp[G])) (λs=>?_) t;rw[xF];by_cases A:s=p
  .subst A;rw[f5 Z];have e:(tmps.setIfInBounds s c).getD s undef=c:=by simp[zBu,z]
   rw[e];exact C 0 y c Z Z
  .rw[Os A];have e:(tmps.setIfInBounds p c).getD s undef=tmps.getD s undef:=by simp[zBu,Array.getElem?_setIfInBounds_ne (Ne.symm A)]
   rw[e];exact h s
theorem fB.evo {F:Fr K0} (z:F5 F X) (G:xU X F.w0 F.h0 F.β0 w h β):EG F.w0 (xT F.X F.β0) F.h0 F.β0 w (xT X β) h β:=
 ⟨G.size,λb hb hd=>⟨G.keep b hb λk n u=>hd (.inr ⟨k,n,u⟩),λh'=>by
  rcases h' with hx|⟨k,n,u⟩
  .rcases z.2 b hx with hx|hx
   .exact hd (.inl hx)
   .omega
  .rcases G.own k b n u with⟨A,B,h2⟩|h2
   .exact hd (.inr ⟨A,B,h2⟩)
   .omega⟩,G.bs,G.key⟩
structure RG {K0:List Nat} (F:Fr K0) (T:List (Nat×AV)) (a:Act) (l:Nat) (hc:List (Nat×xW)) (rec:Loop) (O X:Nat->Prop) (W:World):Prop where
 ex:∃Xc βc,F5 F Xc/\jL Xc (zD hc) βc W/\(∀t,yI W (xT Xc βc) (zD hc) βc (zK T t) (a.eval (.tmp t)))/\fB F (zD hc) βc W/\
  (∃bs:List Nat,a.defers=bs.map (λb=>{target:= .collected b,args:= #[]})/\bs.Nodup/\∀b,b∈bs->Xc b/\F.w0.heap.size<=b/\W.heap[b]? =some (.deferred (some []))/\¬O b)/\
  (∀b,O b->Xc b/\F.w0.heap.size<=b/\¬F.X b)/\(∀b,Bg βc b->X b)/\(∀b,Xc b->X b\/O b)/\Xc l
 lx:X l
 lo:¬O l
 lh:W.heap[l]? =some (.loop rec)
 ll:F.w0.heap.size<=l
 xl:∀b,X b->b<W.heap.size
 nd:∀k,zD hc k≠some .dead
section
variable {K0:List Nat} {F:Fr K0} {T:List (Nat×AV)} {a:Act} {l:Nat} {hc:List (Nat×xW)} {rec:Loop} {O O' X:Nat->Prop} {W W':World}
theorem RG.stab (C:RG F T a l hc rec O X W) (S:W.heap.size<=W'.heap.size) (hk:∀b,b<W.heap.size->¬O b->W'.heap[b]? =W.heap[b]?) (M:∀b,O' b->O b\/W.heap.size<=b) (hl:∀b,O' b->b<W'.heap.size) (o1:W'.os=W.os) (o2:W'.tape=W.tape) (o3:W'.output=W.output):RG F T a l hc rec O' X W':=by
 obtain⟨⟨Xc,I,U,A,c3,B,⟨bs,d1,d2,d3⟩,G,c8,V,Y⟩,lx,lo,lh,ll,xl,nd⟩:=C;have ac:l<W.heap.size:=xl l lx;have R:∀k b n,(b,n)∈I k->¬O b:=λk b n z u=>A.free k b n z (G b u).1
 have E:EG W (xT Xc I) (zD hc) I W' (xT (λb=>(Xc b/\¬O b)\/O' b) I) (zD hc) I:=by
  refine⟨S,λb hb hd=>⟨hk b hb λu=>hd (.inl (G b u).1),λh'=>?_⟩,λk b n z=>?_,jA _ _⟩
  .rcases h' with(hx|hx)|hx
   .exact hd (.inl hx.1)
   .rcases M b hx with u|u
    .exact hd (.inl (G b u).1)
    .omega
   .exact hd (.inr hx)
  .unfold wO World.shape?;rw[hk b (A.lt b (.inr ⟨k,n,z⟩)) (R k b n z)]
 refine⟨⟨λb=>(Xc b/\¬O b)\/O' b,I,⟨λb hb=> .inl ⟨U.1 b hb,λu=>(G b u).2.2 hb⟩,λb hb=>?_⟩,⟨λk e he=>(A.ent k e he).evo E Z λb n z=>hk b (A.lt b (.inr ⟨k,n,z⟩)) (R k b n z),A.off,A.disj,λk b n z hx=>?_,λb hd=>?_⟩,λt=>(c3 t).evo E,⟨B.knd,zBw B.size S,λb hb hi hn=>?_,B.own,B.pas,λk b n z=>?_,o1.trans B.os,o2.trans B.tape,o3.trans B.output⟩,⟨bs,d1,d2,λb hb=>?_⟩,λb hb=>?_,c8,λb hb=>?_,.inl ⟨Y,lo⟩⟩,lx,λh=>?_,by rw[hk l ac lo];exact lh,ll,λb hb=>zBy (xl b hb) S,nd⟩
 .rcases hb with hb|hb
  .exact U.2 b hb.1
  all_goals grind
 .rcases hx with hx|hx
  .exact A.free k b n z hx.1
  .rcases M b hx with u|u
   .grind
   .have:=A.lt b (.inr ⟨k,n,z⟩);omega
 .rcases hd with(hx|hx)|hx
  .grind
  .exact hl b hx
  .exact zBy (A.lt b (.inr hx)) S
 .rw[hk b (zBy hb B.size) λu=>by have:=(G b u).2.1;omega];exact B.keep b hb hi hn
 .obtain⟨n',_,ag⟩:=B.pas k b n z;rw[E.bs k b n' ag,B.bs k b n z]
 .obtain⟨q1,q2,q3,q4⟩:=d3 b hb;refine⟨.inl ⟨q1,q4⟩,q2,by rw[hk b (A.lt b (.inl q1)) q4];exact q3,λh=>?_⟩
  rcases M b h with u|u
  .exact q4 u
  .have:=A.lt b (.inl q1);omega
 .refine⟨.inr hb,?_⟩
  rcases M b hb with u|u
  .exact(G b u).2
  .exact⟨zBw B.size u,λhx=>by have:=A.lt b (.inl (U.1 b hx));omega⟩
 .rcases hb with hb|hb
  .exact(V b hb.1).imp id λu=>absurd u hb.2
  .exact .inr hb
 .rcases M l h with u|u
  .exact lo u
  .omega
def Rn (e:Exit) (c:Code):Prop:=(e= .ret/\c= .ret)\/∃id,e= .exit id/\c= .exit id
theorem RG.round {m:Nat} {V:Array Tmp} {assign:Code} {fn:FuncId} {bd:Nat} {Ks:List Nat} {ys:List AV} {cs:Array Value} {Rq:Exit->List (Nat×xW)->Prop} (b9:∀p,p∈V.toList->p<m) (u:a.tmps.size=m) (gs:m<=GS)
 (bl:rec= {state:= .ready,pending:=none,fn:=fn,tmps:=a.tmps,params:=V,assign:=assign,body:=body,defers:=bd}) (C:RG F T a l hc rec O X W) (hT:∀t h',wT Ks h' (zK T t)=zK T t) (b1:∀k,k∈K0->k∈Ks)
 (bu:cs.size=ln ys) (b7:V.size=ln ys) (br:∀(j:Nat) v,ys[j]? =some v->xM W (λb=>X b\/O b) v (cs.getD j undef)) (b2:∀e h,Rq e h->e= .normal\/e= .ret\/∃id,e= .exit id)
 (cd:∀(F1:Fr (xB hc)),F1.it=true->F1.ro=some l->uD P F1 m assign ⟨Nf V.toList ys T,hc⟩ (λe s=>e= .normal/\∀(F2:Fr (xB s.h)),F2.it=true->F2.ro=some l->uD P F2 m body s (λe s'=>Rq e (wU Ks (zD s'.h))))):
  YieldAt Fence.wide 0 P l cs W λe W'=>(e= .returned (.bool true)/\∃X',aW X X' W W'/\∃h',Rq .normal h'/\RG F T a l h' rec O X' W')\/
   (e= .returned (.bool false)/\∃X',aW X X' W W'/\∃h' x c,Rn x c/\Rq x h'/\RG F T a l h' {rec with state:= .done,pending:=some c} O X' W'):=by
 obtain⟨⟨Xc,βc,c1,c2,c3,c4,⟨bs,d1,d2,d3⟩,c6,c8,a9,ba⟩,lx,lo,lh,ll,xl,nd⟩:=C;have av:l<W.heap.size:=xl l lx;subst bl;refine⟨_,_,_,_,run_yield lh (by simpa using bu.trans b7.symm),?_⟩;dsimp only;refine roundIn_of_wpIn (F:=Fence.wide) (n:=0) trivial ?_
 let F1:Fr (xB hc):=⟨Xc,W,βc,zD hc,λk b n u=>by
  cases hk:zD hc k with
  |none=>rw[c2.off k hk]at u;simp at u
  |some e=>exact uF hk,λk e he=>uF he,some l,true,λ_=>False,λ_ _ _ _=>True,λ_ _ _ _ _ _ _ _ _ _ _ _ _ _=>trivial⟩
 have au:∀{G:List Nat} (F:Fr G),F.it=true->jL F.X F.h0 F.β0 F.w0->(∀k,F.h0 k≠some .dead)->fB F F.h0 F.β0 F.w0:=λF _ H nd=>
  ⟨λk e he=>by
   cases e with
   |dead=>exact absurd he (nd k)
   |box cs=>exact⟨cs,he⟩
   |obj cs=>exact⟨cs,he⟩
   |arr sz xs sl=>exact⟨xs,sl,he,zAw _⟩,zAw _,λ_ _ _ _=>rfl,λk b n u=> .inl ⟨k,n,u⟩,λk b n u=>⟨n,zAw _,u⟩,λ_ _ _ _=>rfl,rfl,rfl,rfl⟩
 have M:∀(z:List (Nat×Value)) (tm:Array Value),(z.foldl (λtmps (p:Nat×Value)=>tmps.setIfInBounds p.1 p.2) tm).size=tm.size:=by
  intro z
  induction z with
  |nil=>exact λ_=>rfl
  |cons p z ih=>intro tm;rw[List.foldl_cons,ih];simp
 have ag:(V.zip cs).foldl (λtmps (p:Nat×Value)=>tmps.setIfInBounds p.1 p.2) a.tmps=(V.toList.zip cs.toList).foldl (λtmps (p:Nat×Value)=>tmps.setIfInBounds p.1 p.2) a.tmps:=by
  rw[<-Array.foldl_toList,Array.toList_zip]
 have R1:wK F1 m ⟨Nf V.toList ys T,hc⟩ {tmps:=(V.zip cs).foldl (λtmps (p:Nat×Value)=>tmps.setIfInBounds p.1 p.2) a.tmps,defers:=[]} W:=by
  refine⟨⟨Xc,βc,⟨λ_ h=>h,λ_ h=> .inl h⟩,c2,λt=>?_,au F1 Z c2 nd,λ_ _=>trivial,[],rfl,λ_=>rfl,zFj,λb hb=>by simp at hb⟩,nd,gs,by rw[ag,M];exact u⟩;rw[ag];refine JY V.toList ys cs.toList T a.tmps (by simpa using bu.symm) (λj v c h1 h2=>?_) (λp hp=>by rw[u];exact b9 p hp) c3 t;have h3:=br j v h1;have e:cs.getD j undef=c:=fX CB;rw[e]at h3;exact .fz _ _ (h3.less λb hd=>hd.elim (a9 b) λho=> .inl (c8 b ho))
 refine Code.wpIn_mono (λe a1 w1 q=>?_) ((cd F1 Z Z).run _ _ R1);obtain⟨s,⟨rfl,hs⟩,⟨⟨X1,β1,S,H1,bz,G,_,ce,b4,b3,_⟩,a3,b0,b5⟩⟩:=q;have:=b3 Z;subst this;have G1:=G.toGoes (λ_ h=>h) c2 H1 nd;have E1:=fB.evo S G1;have bb:w1.heap[l]? =W.heap[l]? :=G.keep l av (λh=>h) λk n u=>c2.free k l n u ba
 have ac:X1 l:=S.1 l ba;refine⟨_,run_beginRound (bb.trans lh) Z,?_⟩;generalize ax:w1.putObj l _=w2;have I:w2.heap.size=w1.heap.size:=by rw[<-ax];simp
 have a6:∀b,b≠l->w2.heap[b]? =w1.heap[b]? :=λb hb=>by rw[<-ax];exact World.putObj_heap_other hb
 have cb:w2.heap[l]? =some (.loop {state:= .busy,pending:=none,fn:=fn,tmps:=a.tmps,params:=V,assign:=assign,body:=body,defers:=bd}):=by
  rw[<-ax];exact World.putObj_heap_same (zBy av G.size)
 have A:w2.os=w1.os/\w2.tape=w1.tape/\w2.output=w1.output:=by rw[<-ax];exact⟨rfl,rfl,rfl⟩
 have ap:∀b,b<w1.heap.size->¬X1 b->w2.heap[b]? =w1.heap[b]? :=λb _ hx=>a6 b λe=>hx (e▸ac)
 have a5:=H1.turn (zCx I.symm) ap;have E2:=UF H1 (zCx I.symm) ap
 let F2:Fr (xB s.h):=⟨X1,w2,β1,zD s.h,λk b n u=>by
  cases hk:zD s.h k with
  |none=>rw[H1.off k hk]at u;simp at u
  |some e=>exact uF hk,λk e he=>uF he,some l,true,λ_=>False,λ_ _ _ _=>True,λ_ _ _ _ _ _ _ _ _ _ _ _ _ _=>trivial⟩
 have R2:wK F2 m s a1 w2:=⟨⟨X1,β1,⟨λ_ h=>h,λ_ h=> .inl h⟩,a5,λt=>(bz t).evo E2,au F2 Z a5 a3,λ_ _=>trivial,[],b4,λ_=>rfl,zFj,λb hb=>by simp at hb⟩,a3,b0,b5⟩;refine Code.wpIn_mono (λe a2 Y q=>?_) ((hs F2 Z Z).run _ _ R2);obtain⟨s3,hq,⟨⟨X3,β3,U,H3,_,K3,_⟩,bx,_,_⟩⟩:=q;have G3:=K3.toGoes (λ_ h=>h) a5 H3 a3;have E3:=fB.evo U G3;have a8:=(K3.keep l (by show l<w2.heap.size;rw[I];exact zBy av G.size) (λh=>h) λk n u=>H1.free k l n u ac).trans cb;have b6:l<Y.heap.size:=zBy (by rw[I];exact zBy av G.size) K3.size;have a4:X3 l:=U.1 l ac;have cg:W.heap.size<=Y.heap.size:=zBw G.size (by rw[<-I];exact K3.size)
 have key:∀E:Loop,∃X',aW X X' W (Y.putObj l (.loop E))/\RG F T a l (wU Ks (zD s3.h)) E O X' (Y.putObj l (.loop E)):=by
  intro E;generalize az:Y.putObj l (.loop E)=w4;have R:w4.heap.size=Y.heap.size:=by rw[<-az];simp
  have a7:∀b,b≠l->w4.heap[b]? =Y.heap[b]? :=λb hb=>by rw[<-az];exact World.putObj_heap_other hb
  have cc:w4.heap[l]? =some (.loop E):=by rw[<-az];exact World.putObj_heap_same b6
  have B:w4.os=Y.os/\w4.tape=Y.tape/\w4.output=Y.output:=by rw[<-az];exact⟨rfl,rfl,rfl⟩
  have ar:∀b,b<Y.heap.size->¬X3 b->w4.heap[b]? =Y.heap[b]? :=λb _ hx=>a7 b λe=>hx (e▸a4)
  obtain⟨H4,ca⟩:=H3.restr Ks;have H5:=H4.turn (zCx R.symm) ar;have E5:=UF H4 (zCx R.symm) ar
  have oc:∀b,X3 b->Xc b\/W.heap.size<=b:=λb hb=>by
   rcases U.2 b hb with h|h
   .exact S.2 b h
   .have h2:w2.heap.size<=b:=h;rw[I]at h2;exact .inr (zBw G.size h2)
  have old:∀b,b<W.heap.size->b≠l->¬Bg βc b->w4.heap[b]? =W.heap[b]? :=λb hb bf bk=>by
   rw[a7 b bf]
   have h1:∀k n,(b,n)∉β1 k:=λk n u=>by
    rcases G.own k b n u with⟨k',n',h⟩|h
    .exact bk ⟨k',n',h⟩
    .have:W.heap.size<=b:=h;omega
   have q1:=K3.keep b (by show b<w2.heap.size;rw[I];exact zBy hb G.size) (λh=>h) h1;have q2:=G.keep b hb (λh=>h) λk n u=>bk ⟨k,n,u⟩
   exact q1.trans ((a6 b bf).trans q2)
  have KF:fB F (zD (wU Ks (zD s3.h))) (βr Ks β3) w4:=by
   have k1:fB F (zD s.h) β1 w1:=c4.goes G1 a3 λk b n u=>G.pas k b n u
   have k2:fB F (zD s.h) β1 w2:=k1.turn H1 I ap (λb hb=>a6 b λe=>by omega) A.1 A.2.1 A.2.2;have k3:fB F (zD s3.h) β3 Y:=k2.goes G3 bx λk b n u=>K3.pas k b n u
   have k4:=k3.restr Ks b1;exact k4.turn H4 R ar (λb hb=>a7 b λe=>by omega) B.1 B.2.1 B.2.2
  refine⟨λb=>X b\/Bg (βr Ks β3) b\/(X3 b/\¬O b),⟨by omega,λb hb hx=>⟨old b hb (λe=>hx (e▸lx)) λho=>hx (c8 b ho),λh'=>?_⟩,λb hb=> .inl hb,λb hb=>?_,?_,?_,?_⟩,⟨X3,βr Ks β3,⟨λb hb=>U.1 b (S.1 b (c1.1 b hb)),λb hb=>?_⟩,H5,λt=>?_,KF,⟨bs,d1,d2,λb hb=>?_⟩,λb hb=>?_,λb hb=> .inr (.inl hb),λb hb=>?_,a4⟩,.inl lx,lo,cc,ll,λb hb=>?_,λk=>?_⟩
  .rcases h' with h|⟨k,n,u⟩|⟨h,hO⟩
   .exact hx h
   .have u:=(kM u).2
    rcases K3.own k b n u with⟨k',n',h⟩|h
    .rcases G.own k' b n' h with⟨k2,n2,h⟩|h
     .exact hx (c8 b ⟨k2,n2,h⟩)
     .have:W.heap.size<=b:=h;omega
    .have h2:w2.heap.size<=b:=h;have:=G.size;have:W.heap.size<=w1.heap.size:=this;omega
   .rcases oc b h with h|h
    .exact(a9 b h).elim hx hO
    .omega
  .rcases hb with h|⟨k,n,u⟩|⟨h,hO⟩
   .have:=xl b h;omega
   .rw[R];exact H3.lt b (.inr ⟨k,n,(kM u).2⟩)
   .rw[R];exact H3.lt b (.inl h)
  .exact B.1.trans (K3.os.trans (A.1.trans G.os))
  .exact B.2.1.trans (K3.tape.trans (A.2.1.trans G.tape))
  .exact B.2.2.trans (K3.output.trans (A.2.2.trans G.output))
  .rcases oc b hb with h|h
   .exact c1.2 b h
   .exact .inr (zBw c4.size h)
  .have:=ca _ _ ((((c3 t).evo E1).evo E2).evo E3);rw[hT]at this;exact this.evo E5
  .obtain⟨q1,q2,q3,q4⟩:=d3 b hb;refine⟨U.1 b (S.1 b q1),q2,?_,q4⟩;rw[old b (c2.lt b (.inl q1)) (λe=>by rw[e,lh]at q3;cases q3) λ⟨k,n,u⟩=>c2.free k b n u q1];exact q3
  .exact⟨U.1 b (S.1 b (c6 b hb).1),(c6 b hb).2⟩
  .by_cases hO:O b
   .exact .inr hO
   .exact .inl (.inr (.inr ⟨hb,hO⟩))
  .rcases hb with h|⟨k,n,u⟩|⟨h,hO⟩
   .have:=xl b h;omega
   .rw[R];exact H3.lt b (.inr ⟨k,n,(kM u).2⟩)
   .rw[R];exact H3.lt b (.inl h)
  .rw[wG];split
   .intro h;rw[zBa]at h;obtain⟨e,he,h2⟩:=h
    cases e with
    |dead=>exact bx k he
    |box cs=>cases h2
    |obj cs=>cases h2
    |arr sz xs st=>obtain⟨ch,cf,h4,_⟩:=gO Ks (zD s3.h) sz xs st;rw[h4]at h2;cases h2
   .intro h;cases h
 rcases b2 e _ hq with rfl|rfl|⟨id,rfl⟩
 .obtain⟨X',q1,q2⟩:=key {state:= .ready,pending:=none,fn:=fn,tmps:=a.tmps,params:=V,assign:=assign,body:=body,defers:=bd};exact⟨_,_,run_endRound none a8,.inl ⟨rfl,X',q1,_,hq,q2⟩⟩
 .obtain⟨X',q1,q2⟩:=key {state:= .done,pending:=some .ret,fn:=fn,tmps:=a.tmps,params:=V,assign:=assign,body:=body,defers:=bd};exact⟨_,_,run_endRound (some .ret) a8,.inr ⟨rfl,X',q1,_,.ret,.ret,.inl ⟨rfl,rfl⟩,hq,q2⟩⟩
 .obtain⟨X',q1,q2⟩:=key {state:= .done,pending:=some (.exit id),fn:=fn,tmps:=a.tmps,params:=V,assign:=assign,body:=body,defers:=bd};exact⟨_,_,run_endRound (some (.exit id)) a8,.inr ⟨rfl,X',q1,_,.exit id,.exit id,.inr ⟨id,rfl,rfl⟩,hq,q2⟩⟩
end
theorem RH (w:World) (o:Obj) (b:Nat) (h:b<w.heap.size):(w.alloc o).heap[b]? =w.heap[b]? :=by
 show(w.heap.push o)[b]? =_
 grind
theorem fB.grow {F:Fr K0} {w':World} (K:fB F h β w) (H:jL X h β w) (B:w.heap.size<=w'.heap.size) (hk:∀b,b<w.heap.size->w'.heap[b]? =w.heap[b]?) (E:w'.os=w.os) (G:w'.tape=w.tape) (I:w'.output=w.output):fB F h β w':=
 ⟨K.knd,zBw K.size B,λb hb hi A=>by rw[hk b (zBy hb K.size)];exact K.keep b hb hi A,K.own,K.pas,λk b n z=>by
  rw[<-K.bs k b n z];obtain⟨C,_,u⟩:=K.pas k b n z;unfold wO World.shape?
  rw[hk b (H.lt b (.inr ⟨k,C,u⟩))],E.trans K.os,G.trans K.tape,I.trans K.output⟩
section
variable {P:Program} {K0:List Nat} {F:Fr K0} {m:Nat} {st:St} {T:List (Nat×AV)} {a:Act} {l:Nat} {hc:List (Nat×xW)} {rec:Loop} {O X:Nat->Prop} {W:World}
theorem RG.rel (C:RG F T a l hc rec O X W) (B:F.it=false) (hT:∀i,zK T GS≠ .gh i) (gs:m<=GS) (hl:a.tmps.size=m) (o:Obj):wK F m ⟨T,hc⟩ a (W.putObj l o):=by
 obtain⟨⟨Xc,βc,I,A,R,S,⟨G,U,V,d3⟩,c6,c8,M,z⟩,lx,lo,lh,ll,xl,Y⟩:=C;have sz:(W.putObj l o).heap.size=W.heap.size:=by simp
 have E:∀b,b≠l->(W.putObj l o).heap[b]? =W.heap[b]? :=λb hb=>World.putObj_heap_other hb
 have u:∀b,b<W.heap.size->¬Xc b->(W.putObj l o).heap[b]? =W.heap[b]? :=λb _ hx=>E b λe=>hx (e▸z)
 refine⟨⟨Xc,βc,I,A.turn (zCx sz.symm) u,λt=>(R t).evo (UF A (zCx sz.symm) u),S.turn A sz u (λb hb=>E b λe=>by omega) Z Z Z,λi hi=>absurd hi (hT i),G,U,(λh=>by rw[B]at h;cases h),V,λb hb=>?_⟩,Y,gs,hl⟩
 grind
def rfQ (Ks:List Nat) (h':List (Nat×xW)) (p:Prop) (Q:Exit->St->Prop) (T:List (Nat×AV)):Exit->St->Prop
 | .normal,s=>wU Ks (zD s.h)=h'/\p
 | .ret,s=>Q .ret ⟨T,wU Ks (zD s.h)⟩
 | .exit id,s=>Q (.exit id) ⟨T,wU Ks (zD s.h)⟩
 |_,_=>False
theorem qO {g:Operand} {ps:Array Tmp} {assign:Code} {f:Nat} {B:List AV} {xs:List (List AV)} (hF:F.ro=none/\F.it=false) (bf:TL P f B h0 xs) (hg:yX (zK st.tm) g= .fn f B)
 (Ks ts:List Nat) (b2:K0.all (Ks.contains ·)=true) (bb:Ks.all (λk=>!(xB h0).contains k)=true) (ce:(xB h0).map (zD st.h)=(xB h0).map (zD h0)) (b7:h0.all (λp=>Sx (xB h0) p.2)=true)
 (a9:(jQ B).all ((xB h0).contains ·)=true) (cj:ts.all (λt=>(zK st.tm t).refs.all (λk=>!(xB h0).contains k))=true)
 (cf:Ks.all (λk=>match zD st.h k with|some (.box cs)=>(jQ cs).all (λj=>!(xB h0).contains j)|_=>true)=true) (cd:ts.all (λt=>!(Nat.beq t GS))=true) (ci:ps.toList.all (Nat.blt · m)=true) (ch:∀(i:Nat) ys,xs[i]? =some ys->ps.size=ln ys)
 (H:Nat->List (Nat×xW)) (I:Nat->Prop) {T:List (Nat×AV)} (e0:restr Ks ts st=⟨T,H 0⟩) (i0:I 0)
 (a5:∀(i:Nat) ys l,xs[i]? =some ys->I i->∀(F1:Fr (xB (H i))),F1.it=true->F1.ro=some l->uD P F1 m assign ⟨Nf ps.toList ys T,H i⟩ (λe s=>e= .normal/\∀(F2:Fr (xB s.h)),F2.it=true->F2.ro=some l->uD P F2 m body s (rfQ Ks (H (i+1)) (I (i+1)) Q T)))
 (done:I (ln xs)->Q .normal ⟨T,H (ln xs)⟩) (cg:v6 st.h=true:=by rfl):uD P F m (.rangeFunc g ps assign body) st Q:=⟨λa w R=>by
 rw[hF.1]
 change Code.wpIn Fence.wide 0 P _ _ a w
 obtain⟨⟨X0,β,hX,U,Ht,KK,_,bs,cb,_,b6,a8⟩,nd,gs,hl⟩:=R
 have hK:∀k,k∈xB h0->zD st.h k=zD h0 k:=λk hk=>by
  obtain⟨i,hi⟩:=zD9 hk;have:=zBb (·[i]?) ce;simpa [hi]using this
 have ac:∀k e,zD h0 k=some e->Sx (xB h0) e=true:=λk e hk=>by
  obtain⟨p,hp,V⟩:=dW hk;have:=zA5.1 b7 p hp;rw[V]at this;exact this
 have A:∀k,k∈xB h0->¬k∈Ks:=λk h1 h2=>by
  have:=zA5.1 bb k h2;simp at this;exact this h1
 have bd:∀k cs,k∈Ks->zD st.h k=some (.box cs)->∀j,j∈jQ cs->¬j∈xB h0:=λk cs hk V j hj h1=>by
  have:=zA5.1 cf k hk;rw[V]at this;have:=zA5.1 this j hj;simp at this;exact this h1
 have ap:∀k,k∈K0->k∈Ks:=λk hk=>by simpa using zA5.1 b2 k hk
 have cp:T=ts.map λt=>(t,wT Ks (zD st.h) (zK st.tm t)):=by have:=zBb St.tm e0;exact this.symm
 have b0:wU Ks (zD st.h)=H 0:=zBb St.h e0
 have G:∀t,zK T t=if t∈ts then wT Ks (zD st.h) (zK st.tm t)else .bot:=λt=>by
  rw[<-gE Ks ts st t,e0]
 have b4:∀t h',wT Ks h' (zK T t)=zK T t:=λt h'=>by
  rw[G];split
  .exact Sn _ _ _ _
  .rfl
 have a7:∀i,zK T GS≠ .gh i:=λi=>by
  rw[G];split
  .rename_i h;have:=zA5.1 cd GS h;simp at this
  .intro h;cases h
 have a1:=PF Ht g;rw[hg]at a1
 obtain⟨cv,cc,ba,ca⟩:∃cv:Array Value,a.eval g= .func (.func f) #[] cv/\cv.size=ln B/\∀(i:Nat) v,B[i]? =some v->yI w (xT X0 β) (zD st.h) β v (cv.getD i undef):=by
  generalize a.eval g=cx at a1
  cases a1 with
  |fz _ _ hf=>cases hf
  |fn _ _ c hl hh=>exact⟨c,rfl,hl,hh⟩
 refine wpIn_rangeFunc (F:=Fence.wide) (n:=0) λfn _=>?_
 generalize S:({state:= .ready,pending:=none,fn:=fn,tmps:=a.tmps,params:=ps,assign:=assign,body:=body,defers:=w.heap.size}:Loop)=rec;obtain⟨E,Y⟩:∃E,E=(w.alloc (.deferred (some []))).alloc (.loop rec):=⟨_,rfl⟩;have cr:E.heap.size=w.heap.size+2:=by rw[Y];simp
 have ar:∀b,b<w.heap.size->E.heap[b]? =w.heap[b]? :=λb hb=>by rw[Y,RH _ _ b qA,RH _ _ b hb]
 have b5:E.heap[w.heap.size]? =some (.deferred (some [])):=by rw[Y,RH _ _ _ zV];exact World.alloc_heap_new _ _
 have bk:E.heap[w.heap.size+1]? =some (.loop rec):=by
  rw[Y];have:=World.alloc_heap_new (w.alloc (.deferred (some []))) (.loop rec);simpa using this
 have u:E.os=w.os/\E.tape=w.tape/\E.output=w.output:=by rw[Y];exact⟨rfl,rfl,rfl⟩
 have ag:(Instr.enterLoop fn a.tmps ps assign body none).run P w= .ok (w.heap.size+1,[{target:= .collected w.heap.size,args:= #[]}]) E:=by
  rw[Y,<-S];exact run_enterLoop_outer fn a.tmps ps assign body
 generalize cq:w.heap.size+1=l at bk ag
 let a':Act:={a with defers:=[{target:= .collected w.heap.size,args:= #[]}]++a.defers}
 let J:Nat->(Nat->Prop)->(Nat->Prop)->World->Prop:=λi O X W=>(i<=ln xs/\I i/\RG F T a' l (H i) rec O X W)\/
  (ln xs<i/\∃h' x c,Rn x c/\Q x ⟨T,h'⟩/\RG F T a' l h' {rec with state:= .done,pending:=some c} O X W)
 have br:∀i O X w w' O',J i O X w->w.heap.size<=w'.heap.size->(∀b,b<w.heap.size->¬O b->w'.heap[b]? =w.heap[b]?)->(∀b,O' b->O b\/w.heap.size<=b)->(∀b,O' b->b<w'.heap.size)->w'.os=w.os->w'.tape=w.tape->w'.output=w.output->J i O' X w':=by
  rintro i O X v v' O' (⟨h1,hI,h2⟩|⟨h1,h',x,c,h2,h3,h4⟩) q1 q2 q3 q4 q5 q6 q7
  .exact .inl ⟨h1,hI,h2.stab q1 q2 q3 q4 q5 q6 q7⟩
  .exact .inr ⟨h1,h',x,c,h2,h3,h4.stab q1 q2 q3 q4 q5 q6 q7⟩
 let O0:Nat->Prop:=Bg (βr (xB h0) β)
 let Xa:Nat->Prop:=λb=>X0 b\/∃k n,k∈xB h0/\(b,n)∈β k
 let Xc:Nat->Prop:=λb=>Xa b\/b=w.heap.size\/b=l
 let Xi:Nat->Prop:=λb=>X0 b\/Bg (βr Ks β) b
 let X1:Nat->Prop:=λb=>Xi b\/b=w.heap.size\/b=l
 have au:∀b,O0 b->b<w.heap.size:=λb ⟨k,n,z⟩=>U.lt b (.inr ⟨k,n,(kM z).2⟩)
 have ax:∀b,Xa b->b<w.heap.size:=λb hb=>hb.elim (λh=>U.lt b (.inl h)) λ⟨k,n,_,z⟩=>U.lt b (.inr ⟨k,n,z⟩)
 have az:∀b,Xi b->b<w.heap.size:=λb hb=>hb.elim (λh=>U.lt b (.inl h)) λ⟨k,n,z⟩=>U.lt b (.inr ⟨k,n,(kM z).2⟩)
 have b3:∀b,O0 b->¬X0 b:=λb ⟨k,n,z⟩ hx=>U.free k b n (kM z).2 hx
 obtain⟨H1,ck⟩:=U.restrX (X':=Xa) Ks (xB h0) (λb hb=>hb) A (Tn cg) bd
 have Q1:aW Xa Xc w E:=⟨by omega,λb hb hx=>⟨ar b hb,λh=>by
  rcases h with h|h|h
  .exact hx h
  .omega
  .omega⟩,λb hb=> .inl hb,λb hb=>by
  rcases hb with h|h|h
  .have:=ax b h;omega
  .omega
  .omega,u.1,u.2.1,u.2.2⟩
 obtain⟨H2,cl⟩:=zAa (Xc:=Xi) U hK ac (λb hb=>by
  rcases hb with h|⟨k,n,z⟩
  .exact .inl h
  .obtain⟨hk,z⟩:=kM z
   exact .inr ⟨k,n,λh=>A k h hk,z⟩)
 have Q2:aW Xi X1 w E:=⟨by omega,λb hb hx=>⟨ar b hb,λh=>by
  rcases h with h|h|h
  .exact hx h
  .omega
  .omega⟩,λb hb=> .inl hb,λb hb=>by
  rcases hb with h|h|h
  .have:=az b h;omega
  .omega
  .omega,u.1,u.2.1,u.2.2⟩
 have C0:RG F T a' l (H 0) rec O0 X1 E:=by
  rw[<-b0];refine⟨⟨Xc,βr Ks β,⟨λb hb=> .inl (.inl (hX.1 b hb)),λb hb=>?_⟩,Q1.hok H1,λt=>?_,(KK.restr Ks ap).grow H1 (by omega) ar u.1 u.2.1 u.2.2,⟨w.heap.size::bs,?_,?_,λb hb=>?_⟩,λb hb=>?_,λb hb=> .inl (.inr hb),λb hb=>?_,.inr (.inr Z)⟩,.inr (.inr Z),λh=>?_,bk,?_,Q2.lt,λk=>?_⟩
  .rcases hb with(h|⟨k,n,hk,z⟩)|h|h
   .exact hX.2 b h
   .rcases KK.own k b n z with⟨k',n',h⟩|h
    .exfalso;obtain⟨a4,_,a2⟩:=KK.pas k' b n' h;have:=U.disj k k' b n a4 z a2;subst this;exact A k hk (ap k (F.hK k b n' h))
    .exact .inr h
   all_goals(exact .inr (by have:=KK.size;omega))
  .rw[G];split
   .rename_i ht
    exact(ck _ _ (λj hj h1=>by
     have:=zA5.1 cj t ht;have:=zA5.1 this j hj;simp at this
     exact this h1) (Ht t)).evo (Q1.evo H1)
   .exact .fz _ _ (.bot _)
  .show [_]++a.defers=_
   rw[cb];rfl
  .refine List.nodup_cons.2 ⟨λh=>?_,b6⟩;have:=U.lt _ (.inl (a8 _ h).1);omega
  .rcases zCf.1 hb with rfl|hb
   .exact⟨.inr (.inl Z),KK.size,b5,λh=>by have:=au _ h;omega⟩
   .obtain⟨q1,q2,q3⟩:=a8 b hb;exact⟨.inl (.inl q1),q2,by rw[ar b (U.lt b (.inl q1))];exact q3,λh=>b3 b h q1⟩
  .obtain⟨k,n,z⟩:=hb;obtain⟨hk,z⟩:=kM z;refine⟨.inl (.inr ⟨k,n,hk,z⟩),?_,λh=>U.free k b n z (hX.1 b h)⟩
   rcases KK.own k b n z with⟨k',n',h⟩|h
   .exfalso;obtain⟨a4,_,a2⟩:=KK.pas k' b n' h;have:=U.disj k k' b n a4 z a2;subst this;exact A k hk (ap k (F.hK k b n' h))
   .exact h
  .rcases hb with(h|⟨k,n,hk,z⟩)|h|h
   .exact .inl (.inl (.inl h))
   .exact .inr ⟨k,n,by rw[WI hk];exact z⟩
   .exact .inl (.inr (.inl h))
   .exact .inl (.inr (.inr h))
  .have:=au _ h;omega
  .have:=KK.size;omega
  .rw[wG];split
   .intro h;rw[zBa]at h;obtain⟨e,V,h2⟩:=h
    cases e with
    |dead=>exact nd k V
    |box cs=>cases h2
    |obj cs=>cases h2
    |arr sz xs fl=>obtain⟨cu,co,h4,_⟩:=gO Ks (zD st.h) sz xs fl;rw[h4]at h2;cases h2
   .intro h;cases h
 let Fi:Fr (xB h0):=⟨X1,E,βr (xB h0) β,zD h0,λk b n z=>(kM z).1,λk e V=>uF V,none,true,X1,J,br⟩
 have a6:=bf.sim l cv Fi ⟨rfl,λ_ h=>h⟩ rfl Z ba (Q2.hok H2) (λi v hv=>(cl v _ (ca i v hv) (λk hk=>by
   have:=zA5.1 a9 k (wS hv hk)
   simpa using this)).evo (Q2.evo H2)) (.inl ⟨zA9 _,i0,C0⟩) (by
  intro i ys X O W cs a3 hj b9 bl;have cn:i<ln xs:=(zBj.1 a3).1
  rcases hj with⟨_,hI,C⟩|⟨h,_⟩
  case inr=>omega
  have hd:=C.round (P:=P) (m:=m) (Ks:=Ks) (ys:=ys) (cs:=cs) (Rq:=λe h'=>(e= .normal/\h'=H (i+1)/\I (i+1))\/((e= .ret\/∃id,e= .exit id)/\Q e ⟨T,h'⟩)) (λp hp=>by simpa using zA5.1 ci p hp) (show a'.tmps.size=m from hl) gs S.symm b4 ap b9 (ch i ys a3) bl
   (λe h M=>by
    rcases M with⟨rfl,_⟩|⟨h|h,_⟩
    .exact .inl Z
    .exact .inr (.inl h)
    .exact .inr (.inr h)) (λF1 f1 f2=>(a5 i ys l a3 hI F1 f1 f2).mono λe s ⟨V,hb⟩=>⟨V,λF2 g1 g2=>(hb F2 g1 g2).mono λe' s' M=>by
     cases e' with
     |normal=>exact .inl ⟨rfl,M⟩
     |ret=>exact .inr ⟨.inl Z,M⟩
     |exit id=>exact .inr ⟨.inr ⟨id,rfl⟩,M⟩
     |goto t=>exact M.elim
     |panic c=>exact M.elim
     |outgrown=>exact M.elim⟩)
  obtain⟨bz,cm,bu,bx,h1,h2⟩:=hd;refine⟨bz,cm,bu,bx,h1,RoundIn.mono h2 ?_⟩;rintro e W' (⟨V,X',q,h',M,C'⟩|⟨V,X',q,h',x,c,hx,M,C'⟩)
  .refine .inl ⟨V,X',q,.inl ⟨by omega,?_⟩⟩
   rcases M with⟨_,rfl,b1⟩|⟨h|⟨id,h⟩,_⟩
   .exact⟨b1,C'⟩
   all_goals cases h
  .refine .inr ⟨V,X',q,.inr ⟨by omega,h',x,c,hx,?_,C'⟩⟩
   rcases M with⟨h,_⟩|⟨_,h⟩
   .rcases hx with⟨rfl,_⟩|⟨id,rfl,_⟩<;>cases h
   .exact h)
 refine⟨l,[{target:= .collected w.heap.size,args:= #[]}],E,{target:= .fn (.func f) cv,args:= #[.func (.yield l) #[] #[]]},E,f, #[.func (.yield l) #[] #[]]++cv,E,ag,?_,λ_ _=>trivial,(by simp only[invoke];exact bf.able _ _),λh=>by simp[Fence.wide]at h,?_⟩
 .unfold resolve rangeCall;dsimp only;rw[cc];simp[Deferred.ofValue,Act.eval]
 .refine callsIn_wide.2 (Calls.mono a6 ?_);rintro e w' ⟨⟨v,rfl⟩,i,O,X,hj,hi⟩;have av:a'.tmps.size=m:=hl
  rcases hj with⟨h1,hI,C⟩|⟨h1,h',x,c,hx,M,C⟩
  .obtain rfl:i=ln xs:=by omega
   refine⟨_,_,run_endLoop C.lh (by rw[<-S];intro h;cases h),?_⟩;rw[show rec.pending=none by rw[<-S]];exact⟨_,done hI,C.rel hF.2 a7 gs av _⟩
  .refine⟨_,_,run_endLoop C.lh (by intro h;cases h),?_⟩;have R:=C.rel hF.2 a7 gs av (.loop {({rec with state:= .done,pending:=some c}:Loop)with state:= .exhausted})
   rcases hx with⟨rfl,rfl⟩|⟨id,rfl,rfl⟩
   .exact wpIn_ret ⟨_,M,R⟩
   .exact wpIn_exit ⟨_,M,R⟩⟩
end
def xy (n:Int):AV:= .s (.int .u8 n)
def Dh (a b:List Int):Bool:=(strOfNums a).toList==(strOfNums b).toList
def BY (l:List Int):Prop:=∀x∈l,0<=x/\x<256
def MK (a:List Int):(strOfNums a).toList=a.map λn=>UInt8.ofNat n.toNat:=by
 rw[ByteArray.toList_eq];rfl
theorem Ac (a b:List Int):Dh a b=decide ((a.map λn=>UInt8.ofNat n.toNat)=b.map λn=>UInt8.ofNat n.toNat):=by
 unfold Dh;rw[MK,MK]
 grind
def AN (a:List Int):Dh a a=true:=by rw[Ac];simp
def Qn (a b:List Int):Dh a b=Dh b a:=by rw[Ac,Ac];simp[eq_comm]
def jI (m n:Int):Int:=IntKind.i64.wrap (BitVec.ofInt IntKind.i64.bits m &&& BitVec.ofInt IntKind.i64.bits n).toNat
def pj (m n:Int):Int:=IntKind.i64.wrap (BitVec.ofInt IntKind.i64.bits m ||| BitVec.ofInt IntKind.i64.bits n).toNat
def W2 (m n:Int):Int:=IntKind.i64.wrap (BitVec.ofInt IntKind.i64.bits m &&& ~~~BitVec.ofInt IntKind.i64.bits n).toNat
section
variable {P:Program} {TT:List TI} {tm:List (Nat×AV)} {h:List (Nat×xW)} {tx ty:Nat} {x y:Operand}
def Pn {n:Int} (hx:yX (zK tm) x= .s (.int .i64 m)) (u:yX (zK tm) y= .s (.int .i64 n)):wX P ⟨tm,h⟩ (.binOp .and tx x y ty) (.s (.int .i64 (jI m n))) [] [] []:=PI hx u
def aN {n:Int} (hx:yX (zK tm) x= .s (.int .i64 m)) (u:yX (zK tm) y= .s (.int .i64 n)):wX P ⟨tm,h⟩ (.binOp .or tx x y ty) (.s (.int .i64 (pj m n))) [] [] []:=HL hx u
def On {n:Int} (hx:yX (zK tm) x= .s (.int .i64 m)) (u:yX (zK tm) y= .s (.int .i64 n)):wX P ⟨tm,h⟩ (.binOp .andNot tx x y ty) (.s (.int .i64 (W2 m n))) [] [] []:=Kb hx u
def JZ {a:List Int} (hx:yX (zK tm) x= .s (.string (strOfNums a))) (u:yX (zK tm) y= .s (.string (strOfNums b))):wX P ⟨tm,h⟩ (.binOp .eql tx x y ty) (.s (.bool (Dh a b))) [] [] []:=RZ hx u (.inl ⟨rfl,rfl⟩)
def IA {a:List Int} (hx:yX (zK tm) x= .s (.string (strOfNums a))) (u:yX (zK tm) y= .s (.string (strOfNums b))):wX P ⟨tm,h⟩ (.binOp .neq tx x y ty) (.s (.bool (!Dh a b))) [] [] []:=RZ hx u (.inr ⟨rfl,rfl⟩)
def AO (R:uZ P TT) {A u:Nat} {ts td:TI} {xs:List AV} {l:List Int} (hs:TT[A]? =some ts) (ag:ts.d= .slice e) (he:TT[e]? =some te) (ac:te.d= .int .u8) (hd:TT[u]? =some td) (Y:td.d= .string)
 (hx:yX (zK tm) x= .sl nn xs) (hl:xs=l.map xy):wX P ⟨tm,h⟩ (.convert A u x) (.s (.string (strOfNums l))) [] [] []:=
 yZ λo X tm h w β a ho hg _ HH Ht=>by
  obtain⟨ar,ax,au,pos,I,M⟩:=o;dsimp only at ho;subst ho;have h1:=fC Ht hg (x:=x) uO hx;obtain⟨_,u1,_,_,B,_,U,_⟩:=uG (R _ _ hs);obtain⟨_,u2,_,_,C,_,V,_⟩:=uG (R _ _ he);obtain⟨_,u3,_,_,E,_,W,_⟩:=uG (R _ _ hd);obtain rfl:=uB (U.symm.trans ag);obtain rfl:=HJ (V.symm.trans ac);obtain rfl:=fh (W.symm.trans Y);subst hl;refine⟨.string (strOfNums l),?_,.fz _ _ (.s _)⟩
  have key:(convert A u (a.eval x)).run P w= .ok (.string (strOfNums l)) w:=by
   generalize a.eval x=cx at h1
   cases h1 with
   | fz _ _ hf=>
    generalize G:l.map xy=xs at hf
    cases hf with
    | nil b cap=>
     obtain rfl:l=[]:=by cases l with
      |nil=>rfl
      |cons z l=>simp at G
     cases b with
     |none=>exact run_convert_bytes_nil w A e B C 0 cap u E
     |some b=>
      rw[run_convert_bytes_string w A u e _ 0 cap B C E];simp[Conv.bytesToString,loadCells];rfl
    | nil1 b cap=>
     obtain rfl:l=[]:=by cases l with
      |nil=>rfl
      |cons z l=>simp at G
     rw[run_convert_bytes_string w A u e _ 0 cap B C E];simp[Conv.bytesToString,loadCells];rfl
    | sl _ _ b o sz cap f hx hL av hh=>
     subst G;have S:∀i,i<ln l->(l.map xy)[i]? =some (xy (l.getD i 0)):=λi hi=>by simp[pi,hi]
     have ap:sz=1:=by
      cases l with
      |nil=>exact absurd Z hx
      |cons z l=>exact(hL.wide 0 (xy z) Z).symm
     subst ap
     have:=run_convert_bytes_arg (P:=P) w A e B C b o (l.map xy).length cap l zV (λi hi=>by
      have hi':i<ln l:=by simpa using hi
      have h2:=hL.cell i 0 (by simpa using hi') (by omega);have O:=(hh i _ 0 (xy (l.getD i 0)) (S i hi') Z);rw[show o+i=o+i*1+0 by omega,h2];unfold xy at O;generalize f i 0=c at O;cases O
      rfl) u E
     exact this
  simp[execOp,key]
end
section
variable {P:Program} {TT:List TI} {K0:List Nat} {F:Fr K0} {m:Nat} {ops:Array Oper} {rest:List Oper} {Q:List FP->St->Prop} {tm:List (Nat×AV)} {h:List (Nat×xW)} {dr:Bool} {fs:List FP}
variable {ty:Nat} {pos:String} {after:Array Edge} {t:Nat}
def gX {lo hi u:Option Operand} (hk:yN P F m ops dr (⟨some t,.slice T x lo hi u,ty,pos,after,none⟩::rest) st fs Q):yN P F m ops dr (⟨some t,.slice T x lo hi u,ty,pos,after,none⟩::rest) st fs Q:=hk
def GZ (z:uZ P TT) {xs ys:List AV} {k:IntKind} {i:Int} (hx:yX (zK tm) x= .sl nn xs) (hl:yX (zK tm) l= .s (.int k i)) (hT:TT[T]? =some ti) (hd:ti.d= .slice e) (A:TT[e]? =some te)
 (u:∀y,xs[0]? =some y->ln y.cells=te.size) (h0:0<=i) (h1:i<=ln xs) (C:xs.drop i.toNat=ys) (B:Nat.blt t m=true) (hk:yN P F m ops dr rest ⟨(t,.sl nn ys)::tm,h⟩ (⟨true,[],[]⟩::fs) Q):
  yN P F m ops dr (⟨some t,.slice T x (some l) none none,ty,pos,after,none⟩::rest) ⟨tm,h⟩ fs Q:=by
 have:=aI (P:=P) (st:=⟨tm,h⟩) (lo:=some l) (hi:=none) (l:=i.toNat) (r:=ln xs) z hx hT hd A ⟨k,i,hl,by omega⟩ rfl (by omega) (zAw _) u;rw[show(xs.drop i.toNat).take (ln xs-i.toNat)=ys by rw[<-C];exact zA1 zV]at this;exact wM this B hk
def V2 (z:uZ P TT) {xs ys:List AV} {k:IntKind} {i:Int} (hx:yX (zK tm) x= .sl nn xs) (hl:yX (zK tm) l= .s (.int k i)) (hT:TT[T]? =some ti) (hd:ti.d= .slice e) (A:TT[e]? =some te)
 (u:∀y,xs[0]? =some y->ln y.cells=te.size) (h0:0<=i) (h1:i<=ln xs) (C:xs.take i.toNat=ys) (B:Nat.blt t m=true) (hk:yN P F m ops dr rest ⟨(t,.sl nn ys)::tm,h⟩ (⟨true,[],[]⟩::fs) Q):
  yN P F m ops dr (⟨some t,.slice T x none (some l) none,ty,pos,after,none⟩::rest) ⟨tm,h⟩ fs Q:=by
 have:=aI (P:=P) (st:=⟨tm,h⟩) (lo:=none) (hi:=some l) (l:=0) (r:=i.toNat) z hx hT hd A Z ⟨k,i,hl,by omega⟩ (by omega) (by omega) u;rw[show(xs.drop 0).take (i.toNat-0)=ys by rw[<-C];rfl]at this;exact wM this B hk
def Nu (C:uZ P TT) {A:Operand} {xs ys:List AV} {k B:IntKind} {i j:Int} (hx:yX (zK tm) x= .sl nn xs) (hl:yX (zK tm) l= .s (.int k i)) (u:yX (zK tm) A= .s (.int B j)) (hT:TT[T]? =some ti) (hd:ti.d= .slice e) (E:TT[e]? =some te)
 (z:∀y,xs[0]? =some y->ln y.cells=te.size) (h0:0<=i) (h1:i<=j) (h2:j<=ln xs) (I:(xs.drop i.toNat).take (j.toNat-i.toNat)=ys) (G:Nat.blt t m=true) (hk:yN P F m ops dr rest ⟨(t,.sl nn ys)::tm,h⟩ (⟨true,[],[]⟩::fs) Q):
  yN P F m ops dr (⟨some t,.slice T x (some l) (some A) none,ty,pos,after,none⟩::rest) ⟨tm,h⟩ fs Q:=by
 have:=aI (P:=P) (st:=⟨tm,h⟩) (lo:=some l) (hi:=some A) (l:=i.toNat) (r:=j.toNat) C hx hT hd E ⟨k,i,hl,by omega⟩ ⟨B,j,u,by omega⟩ (by omega) (by omega) z;rw[I]at this;exact wM this G hk
end
theorem yI.offK {D':Nat->Prop} {h':yS} {β':uM} (k:Nat) (E:∀b,D' b->D b) (hh:∀j,j≠k->h' j=h j) (hβ:∀j,j≠k->β' j=β j) {v:AV} {c:Value} (hv:yI w D h β v c):k∉v.refs->yI w D' h' β' v c:=by
 induction hv with
 |fz v c G=>exact λ_=> .fz v c (G.less E)
 |agg cs c hl h1 C A=>exact λhk=> .agg cs c hl h1 λi v hv=>A i v hv λz=>hk (wS hv z)
 |fn f u c hl C A=>exact λhk=> .fn f u c hl λi v hv=>A i v hv λz=>hk (wS hv z)
 |tup vs c hl C A=>exact λhk=> .tup vs c hl λi v hv=>A i v hv λz=>hk (wS hv z)
 |dref j off len c hk' h1=>exact λhk=> .dref j off len c (by rw[hh j (λe=>hk (by simp[AV.refs,e]))];exact hk') h1
 |dptr j i off c hk' h1=>exact λhk=> .dptr j i off c (by rw[hh j (λe=>hk (by simp[AV.refs,e]))];exact hk') h1
 |ref j off len sz xs st b n cap hk' hb B hc M=>
  intro hk;have hj:j≠k:=λe=>hk (by simp[AV.refs,e])
  exact .ref j off len sz xs st b n cap ND Se B hc M
 |ref0 j off sz xs st a hk' B=>
  intro hk;have hj:j≠k:=λe=>hk (by simp[AV.refs,e])
  exact .ref0 j off sz xs st a ND B
 |pbox j off cs b n hk' hb=>
  intro hk;have hj:j≠k:=λe=>hk (by simp[AV.refs,e])
  exact .pbox j off cs b n ND Se
 |parr j i off sz xs st b n hk' hb hi I=>
  intro hk;have hj:j≠k:=λe=>hk (by simp[AV.refs,e])
  exact .parr j i off sz xs st b n ND Se hi I
def AV.isGh:AV->Bool
 | .gh _=>true
 |_=>false
variable {v v' xv:AV}{xs ys:List AV}
section
variable {P:Program} {K0:List Nat} {F:Fr K0} {m:Nat} {tm:List (Nat×AV)} {h:List (Nat×xW)}
def Mu (k:Nat):xW->Bool
 | .box cs=>!(jQ cs).contains k
 | .obj cs=>true
 | .arr _ xs u=>bif u.nest then !(jQ xs).contains k else true
 | .dead=>true
theorem wK.compact (R:wK F m ⟨tm,h⟩ a w) (k:Nat) (ws:List Nat) (hk:zD h k=some (.arr sz xs ⟨sb,false⟩)) (I:K0.contains k=false) (a4:ws.map (zK tm)=ws.map λ_=> .ref k 0 (ln xs))
 (a3:tm.all (λp=>ws.contains p.1|| !p.2.refs.contains k)=true) (ar:h.all (λp=>Mu k p.2)=true):wK F m ⟨tm,(k,.arr sz xs false)::h⟩ a w:=by
 obtain⟨⟨X,β,hX,H,Ht,G,hJ,hD⟩,nd,gs,hl⟩:=R;have hE:=H.ent k _ hk;obtain⟨e1,e2,e3,e4,e5,f,e6,e7,e8⟩:=hE
 let β':uM:=λj=>if j=k then(β k).take 1 else β j
 have z:∀j b n,(b,n)∈β' j->(b,n)∈β j:=λj b n u=>by
  grind
 have C:∀b,xT X β' b->xT X β b:=λb hd=>hd.imp id λ⟨j,n,u⟩=>⟨j,n,z j b n u⟩
 have B:∀j,j≠k->zD ((k,.arr sz xs false)::h) j=zD h j:=λj hj=>by rw[xK,Os hj]
 have M:zD ((k,.arr sz xs false)::h) k=some (.arr sz xs false):=by rw[xK,f5 Z]
 have A:∀j,j≠k->β' j=β j:=λj hj=>by dsimp only[β'];rw[Os hj]
 have Y:β' k=(β k).take 1:=by dsimp only[β'];rw[f5 Z]
 have ag:∀c,yI w (xT X β) (zD h) β (.ref k 0 (ln xs)) c->yI w (xT X β') (zD ((k,.arr sz xs false)::h)) β' (.ref k 0 (ln xs)) c:=λc hc=>by
  generalize hn:ln xs=n at hc
  cases hc with
  |fz _ _ hf=>cases hf
  |dref _ _ _ _ hd _=>exact absurd hd (nd k)
  | ref _ _ _ ac ap st' b n' cap U hb au ax a2=>
   rw[hk]at U;cases U;refine .ref k 0 n sz xs false b n' cap M ?_ au ax a2;rw[Y]
   cases hbk:β k with
   |nil=>rw[hbk]at hb;simp at hb
   |cons p r=>
    rw[hbk]at hb;obtain⟨b0,n0⟩:=p;obtain⟨_,_,g3⟩:=e5 b0 n0 r hbk
    rcases zCf.1 hb with h1|h1
    .rw[h1];simp
    .exfalso;have:=g3 b n' h1;omega
  |ref0 _ _ ac ap st' ad U au=>exact .ref0 k 0 sz xs false ad M (zA9 _)
 have av:∀t,yI w (xT X β') (zD ((k,.arr sz xs false)::h)) β' (zK tm t) (a.eval (.tmp t)):=λt=>by
  by_cases hw:t∈ws
  .obtain⟨i,hi⟩:=zD9 hw;have e:=zBb (·[i]?) a4;simp only[zAz,hi,zCn,zCd]at e;have:=Ht t;dsimp only at this;rw[e]at this⊢;exact ag _ this
  .refine(Ht t).offK k C B A ?_;dsimp only;intro u
   have key:∀(l:List (Nat×AV)),l.all (λp=>ws.contains p.1|| !p.2.refs.contains k)=true->k∈(zK l t).refs->False:=λl=>by
    induction l with
    |nil=>intro _ u;simp[zK,AV.refs]at u
    | cons p r ih=>
     obtain⟨j,v⟩:=p;intro hl u;rw[xF]at u;simp only[zFw,zA2]at hl;split at u
     .rename_i e;subst e;have h1:=hl.1;simp only[zC3,zDf,zC9,zEo]at h1
      rcases h1 with h1|h1
      .exact hw h1
      .exact h1 (by simpa using u)
     .exact ih hl.2 u
   exact key tm a3 u
 have H':jL X (zD ((k,.arr sz xs false)::h)) β' w:=by
  refine⟨λj e E=>?_,λj hj=>?_,λj j' b n n' h1 h2=>H.disj j j' b n n' (z _ _ _ h1) (z _ _ _ h2),λj b n u=>H.free j b n (z _ _ _ u),λb hd=>H.lt b (C b hd)⟩
  .by_cases hj:j=k
   .subst hj;rw[M]at E;cases E;refine⟨e1,e2,λhx=>?_,e4,λb n r O=>?_,f,.ofF λi x l v hx hv=>(e6.toF Z i x l v hx hv).less C,e7,λb n u=>e8 b n (z _ _ _ u)⟩
    .rw[Y];have:=e3 hx
     cases hbk:β j with
     |nil=>exact absurd hbk this
     |cons p r=>simp
    .rw[Y]at O
     cases hbk:β j with
     |nil=>rw[hbk]at O;simp at O
     |cons p r'=>
      rw[hbk]at O;simp only[List.take_succ_cons,zD7,List.cons.injEq]at O;obtain⟨hp,O⟩:=O;subst O;rw[hp]at hbk;obtain⟨g1,_,_⟩:=e5 b n r' hbk;exact⟨g1,λ_ b' n' u=>by simp at u,λb' n' u=>by simp at u⟩
   .rw[B j hj]at E;have hE:=H.ent j e E
    cases e with
    |dead=>exact absurd E (nd j)
    |box cs=>
     obtain⟨b,c,el,g1,g2,g3,g4,g5⟩:=hE;refine⟨b,c,el,by rw[A j hj];exact g1,g2,g3,g4,λi v hv=>(g5 i v hv).offK k C B A λu=>?_⟩;obtain⟨p,hp,W⟩:=dW E;have:=zA5.1 ar p hp;rw[W]at this;have V:=wS hv u;simp only[Mu,zC9,zEo]at this;exact this (by simpa using V)
    |obj cs=>
     exact⟨by rw[A j hj];exact hE.1,hE.2⟩
    | arr ac ap st'=>
     obtain⟨g1,g2,g3,g4,g5,f',g6,g7,g8⟩:=hE;refine⟨g1,g2,by rw[A j hj];exact g3,g4,by rw[A j hj];exact g5,f',λi x l v hx hv=>?_,g7,by rw[A j hj];exact g8⟩
     cases hn:st'.nest with
     |false=>exact⟨.fz _ _ ((g6.toF hn i x l v hx hv).less C),λ_=>(g6.toF hn i x l v hx hv).less C⟩
     |true=>
      refine⟨(g6.toV i x l v hx hv).offK k C B A λu=>?_,λh0=>by cases h0⟩;obtain⟨p,hp,W⟩:=dW E;have:=zA5.1 ar p hp;rw[W]at this;simp only[Mu,hn,zB6]at this;have V:=wS hx (WM hv u);simp only[zC9,zEo]at this;exact this (by simpa using V)
  .rw[xK]at hj;split at hj
   .cases hj
   .rename_i a1;rw[A j a1];exact H.off j hj
 have az:∀b n,(b,n)∉F.β0 k:=λb n u=>by
  have:=F.hK k b n u;simp only[zEo]at I;exact I Ue
 refine⟨⟨X,β',hX,H',av,⟨λj e E=>?_,G.size,G.keep,λj b n u=>G.own j b n (z _ _ _ u),λj b n u=>?_,G.bs,G.os,G.tape,G.output⟩,λi hi=>?_,hD⟩,λj=>?_,gs,hl⟩
 .have hj:j≠k:=λe'=>by
   subst e';have:=F.hh j e E;simp only[zEo]at I;exact I Ue
  have:=G.knd j e E
  cases e with
  |dead=>exact this
  |box cs=>obtain⟨S,h2⟩:=this;exact⟨S,by dsimp only;rw[B j hj];exact h2⟩
  |obj cs=>obtain⟨S,h2⟩:=this;exact⟨S,by dsimp only;rw[B j hj];exact h2⟩
  |arr ac ap a7=>obtain⟨a6,a5,h2,h3⟩:=this;exact⟨a6,a5,by dsimp only;rw[B j hj];exact h2,h3⟩
 .have hj:j≠k:=λe'=>by subst e';exact az b n u
  rw[A j hj];exact G.pas j b n u
 .exact F.Jst i _ X w w _ (hJ i hi) (zAw _) (λ_ _ _=>rfl) (λb ⟨j,n,u⟩=> .inl ⟨j,n,z _ _ _ u⟩) (λb ⟨j,n,u⟩=>H.lt b (.inr ⟨j,n,z _ _ _ u⟩)) Z Z Z
 .dsimp only;by_cases hj:j=k
  .subst hj;rw[M];intro hd;cases hd
  .rw[B j hj];exact nd j
theorem wK.flag (R:wK F m ⟨tm,h⟩ a w) (k:Nat) {st:Fl} (A:Fl) (q1:A.stale=false->st.stale=false) (q2:A.nest=false->st.nest=false) (hk:zD h k=some (.arr sz xs st)):wK F m ⟨tm,(k,.arr sz xs A)::h⟩ a w:=by
 obtain⟨⟨X,β,hX,H,Ht,C,hJ,hD⟩,nd,gs,hl⟩:=R;have z:∀j,j≠k->zD ((k,.arr sz xs A)::h) j=zD h j:=λj hj=>by rw[xK,Os hj]
 have I:zD ((k,.arr sz xs A)::h) k=some (.arr sz xs A):=by rw[xK,f5 Z]
 have E:EG w (xT X β) (zD h) β w (xT X β) (zD ((k,.arr sz xs A)::h)) β:=⟨zAw _,λb _ hd=>⟨rfl,hd⟩,λ_ _ _ _=>rfl,λj e B=>by
  by_cases hj:j=k
  .subst hj;rw[hk]at B;cases B;exact .inr ⟨⟨xs,A,I,zAw _⟩,λb n hm=>⟨n,zAw _,hm⟩⟩
  .have:=jA (zD h) β j e B
   rcases this with h1|h1
   .exact .inl (by rw[z j hj];exact h1)
   .refine .inr ?_
    cases e with
    |dead=>exact h1
    |box cs=>obtain⟨⟨u,h2⟩,G⟩:=h1;exact⟨⟨u,by rw[z j hj];exact h2⟩,G⟩
    |obj cs=>obtain⟨⟨u,h2⟩,G⟩:=h1;exact⟨⟨u,by rw[z j hj];exact h2⟩,G⟩
    |arr O S st'=>obtain⟨⟨x2,s2,h2,G⟩,h4⟩:=h1;exact⟨⟨x2,s2,by rw[z j hj];exact h2,G⟩,h4⟩⟩
 have H':jL X (zD ((k,.arr sz xs A)::h)) β w:=by
  refine⟨λj e B=>?_,λj hj=>?_,H.disj,H.free,H.lt⟩
  .by_cases hj:j=k
   .subst hj;rw[I]at B;cases B;obtain⟨e1,e2,e3,e4,V,f,e6,e7⟩:=H.ent j _ hk;exact⟨e1,e2,e3,e4,λb n r W=>⟨(V b n r W).1,λh=>(V b n r W).2.1 (q1 h),(V b n r W).2.2⟩,f,λi x l v hx hv=>⟨(e6.toV i x l v hx hv).evo E,λh=>(e6.toF (q2 h) i x l v hx hv).evo E.size E.fz⟩,e7⟩
   .rw[z j hj]at B;exact(H.ent j e B).evo E Z λ_ _ _=>rfl
  .rw[xK]at hj;split at hj
   .cases hj
   .exact H.off j hj
 refine⟨⟨X,β,hX,H',λt=>(Ht t).evo E,⟨λj e B=>?_,C.size,C.keep,C.own,C.pas,C.bs,C.os,C.tape,C.output⟩,hJ,hD⟩,λj=>?_,gs,hl⟩
 .have:=C.knd j e B;by_cases hj:j=k
  .subst hj
   cases e with
   |dead=>exact this
   |box cs=>obtain⟨u,h2⟩:=this;(try dsimp only at h2);rw[hk]at h2;cases h2
   |obj cs=>obtain⟨u,h2⟩:=this;(try dsimp only at h2);rw[hk]at h2;cases h2
   |arr O S Y=>obtain⟨U,M,h2,G⟩:=this;(try dsimp only at h2);rw[hk]at h2;cases h2;exact⟨xs,A,I,G⟩
  .cases e with
   |dead=>exact this
   |box cs=>obtain⟨u,h2⟩:=this;exact⟨u,by dsimp only;rw[z j hj];exact h2⟩
   |obj cs=>obtain⟨u,h2⟩:=this;exact⟨u,by dsimp only;rw[z j hj];exact h2⟩
   |arr O S Y=>obtain⟨U,M,h2,G⟩:=this;exact⟨U,M,by dsimp only;rw[z j hj];exact h2,G⟩
 all_goals grind
def vO (k:Nat) (hk:zD h k=some (.arr sz xs ⟨sb,false⟩)) (u:uD P F m c ⟨tm,(k,.arr sz xs true)::h⟩ Q):uD P F m c ⟨tm,h⟩ Q:=
 ⟨λa w R=>u.run a w (R.flag k true (λh=>by cases h) (λ_=>rfl) hk)⟩
def AP (k:Nat) (hk:zD h k=some (.arr sz xs ⟨sb,false⟩)) (u:uD P F m c ⟨tm,(k,.arr sz xs ⟨sb,true⟩)::h⟩ Q):uD P F m c ⟨tm,h⟩ Q:=
 ⟨λa w R=>u.run a w (R.flag (st:=⟨sb,false⟩) k ⟨sb,true⟩ (λh=>h) (λh=>Bool.noConfusion h) hk)⟩
theorem wK.wkT (R:wK F m ⟨tm,h⟩ a w) (t:Nat) (hv:zK tm t=v) (G:ZC v=v') (I:∀i,v'≠ .gh i):wK F m ⟨(t,v')::tm,h⟩ a w:=by
 obtain⟨⟨X,β,B,H,u,z,E,A⟩,C,gs,hl⟩:=R;refine⟨⟨X,β,B,H,λj=>?_,z,λi hi=>?_,A⟩,C,gs,hl⟩
 .rw[xF];split
  .rename_i hj;subst hj;have:=(u j).wk
   grind
  .exact u j
 all_goals grind [wK,zK,ZC]
def ZU {u:Array Oper} {l:List Oper} {fs:List FP} {Q:List FP->St->Prop} (t:Nat) (hv:zK tm t=v) (A:ZC v=v') (z:v'.isGh=false) (hk:yN P F m u false l ⟨(t,v')::tm,h⟩ fs Q):yN P F m u false l ⟨tm,h⟩ fs Q:=
 ⟨λa w R=>hk.run a w (R.wkT t hv A λi hi=>by rw[hi]at z;cases z)⟩
def Nn (t:Nat) (hv:zK tm t=v) (z:ZC v=v') (u:v'.isGh=false) (hk:uD P F m c ⟨(t,v')::tm,h⟩ Q):uD P F m c ⟨tm,h⟩ Q:=
 ⟨λa w R=>hk.run a w (R.wkT t hv z λi hi=>by rw[hi]at u;cases u)⟩
def kF (k:Nat) (u:List Nat) (hk:zD h k=some (.arr sz xs ⟨sb,false⟩)) (z:K0.contains k=false) (C:u.map (zK tm)=u.map λ_=> .ref k 0 (ln xs))
 (B:tm.all (λp=>u.contains p.1|| !p.2.refs.contains k)=true) (A:h.all (λp=>Mu k p.2)=true) (E:uD P F m c ⟨tm,(k,.arr sz xs false)::h⟩ Q):uD P F m c ⟨tm,h⟩ Q:=
 ⟨λa w R=>E.run a w (R.compact k u hk z C B A)⟩
end
def p2 (n:Int):Int:=2 ^ n.toNat
def vT (m n:Int):Int:=m.fdiv (2 ^ n.toNat)
theorem AQ (n:Int) (h:n<=40):1<=p2 n/\p2 n<=1099511627776:=by
 unfold p2;have h1:(2:Int) ^ n.toNat=((2 ^ n.toNat:Nat):Int):=by simp
 have h2:2 ^ n.toNat<=2 ^ 40:=zEk (by omega) (by omega)
 grind
section
variable {P:Program} {tm:List (Nat×AV)} {h:List (Nat×xW)} {tx ty:Nat} {x y:Operand}
def Mn {z:IntKind} {n:Int} (hx:yX (zK tm) x= .s (.int .i64 1)) (u:yX (zK tm) y= .s (.int z n)) (h0:0<=n/\n<=40):wX P ⟨tm,h⟩ (.binOp .shl tx x y ty) (.s (.int .i64 (p2 n))) [] [] []:=by
 have e:IntKind.i64.wrap (1*2 ^ (min n.toNat IntKind.i64.bits))=p2 n:=by
  have hb:IntKind.i64.bits=64:=rfl;have h1:=AQ n h0.2;rw[hb,show min n.toNat 64=n.toNat by omega,zFl];exact kI (k:= .i64) ⟨by unfold p2 at h1;show -9223372036854775808<=_;omega,by unfold p2 at h1;show _<=9223372036854775807;omega⟩
 rw[<-e];exact YV (.inl ⟨rfl,rfl⟩) hx u h0.1
theorem Ln {z:IntKind} {n:Int} (hx:yX (zK tm) x= .s (.int .i64 m)) (u:yX (zK tm) y= .s (.int z n)) (h0:0<=n/\n<=40):wX P ⟨tm,h⟩ (.binOp .shr tx x y ty) (.s (.int .i64 (vT m n))) [] [] []:=by
 have hb:IntKind.i64.bits=64:=rfl;refine YV (.inr ⟨rfl,?_⟩) hx u h0.1
 grind [yX,zK,vT]
end
section
variable {P:Program} {K0:List Nat} {F:Fr K0} {m:Nat}
def eQ {x y:Code} (K z:List Nat) (u:St) (A:K0.all (K.contains ·)=true) (h1:uD P F m x st (λe s=>e= .normal/\restr K z s=u)) (h2:uD P F m y u Q):uD P F m x st (XV P F m y Q):=
 ⟨λa w H=>Code.wpIn_mono (λe a' w' ⟨s,⟨he,hs⟩,hr⟩=>by subst he;exact⟨u,h2,hs▸wK.restr hr K z A⟩) (h1.run a w H)⟩
end
section
variable {P:Program} {tm:List (Nat×AV)} {h:List (Nat×xW)} {tx ty:Nat} {x y:Operand}
def yd {a:List Int} {v:Bool} (hx:yX (zK tm) x= .s (.string (strOfNums a))) (u:yX (zK tm) y= .s (.string (strOfNums b))) (hv:Dh a b=v):wX P ⟨tm,h⟩ (.binOp .eql tx x y ty) (.s (.bool v)) [] [] []:=hv▸JZ hx u
def xd {a:List Int} {v:Bool} (hx:yX (zK tm) x= .s (.string (strOfNums a))) (u:yX (zK tm) y= .s (.string (strOfNums b))) (hv:Dh a b=v):wX P ⟨tm,h⟩ (.binOp .neq tx x y ty) (.s (.bool (!v))) [] [] []:=hv▸IA hx u
end
section
variable {P:Program} {K0:List Nat} {F:Fr K0} {m:Nat} {TT:List TI} {ops:Array Oper} {dr:Bool} {rest:List Oper} {tm:List (Nat×AV)} {h:List (Nat×xW)} {fs:List FP} {Q:List FP->St->Prop} {t ty:Nat} {pos:String} {after:Array Edge}
def bD (kn:Nat) (S:uZ P TT) {n:Nat} {y:Operand} {kx ky:IntKind} {R:Int} {z:AV} (hx:yX (zK tm) x= .s (.int kx nx)) (Y:yX (zK tm) y= .s (.int ky R)) (hT:TT[T]? =some ti) (hd:ti.d= .slice e) (U:TT[e]? =some te)
 (hb:Nat.ble te.bytes 65536=true) (W:Nat.ble 1 te.size=true) (O:Nat.beq (ln te.zero) te.size=true) (I:te.zero.all (·.oneCell')=true) (M:Nat.beq (uH te).cells.length te.size=true) (A:(uH te).cells=te.zero.map .s) (hz:uH te=z)
 (C:nx=(n:Int)) (E:nx<=R) (u:R<=1073741824) (V:Nat.blt t m=true) (B:(zD h kn).isNone=true)
 (G:te.size=sz) (hk:yN P F m ops dr rest ⟨(t,.ref kn 0 n)::tm,(kn,.arr sz (pb n z) false)::h⟩ (⟨true,[kn,kn],[]⟩::fs) Q):yN P F m ops dr (⟨some t,.makeSlice T x y,ty,pos,after,none⟩::rest) ⟨tm,h⟩ fs Q:=by
 subst G hz;exact uU (nw:=[kn]) (WC S kn hx Y hT hd U C E u hb W O I M A) V (Mb B) Z hk
end
section
variable {P:Program} {TT:List TI} {st:St}
theorem Ch (hP:uZ P TT) {I n:Nat} {tn:TI} {k0:IntKind} (kn:Nat) (hs:yX (zK st.tm) s= .s (.slice none 0 0)) (hx:yX (zK st.tm) x= .s (.int .i64 nx)) (hT:TT[T]? =some ti) (hd:ti.d= .slice e) (he:TT[e]? =some te) (hI:TT[I]? =some tn) (a2:tn.d= .int k0)
 (a8:nx=(n:Int)) (B:1<=n) (ac:n<=1073741824) (hb:Nat.ble te.bytes 65536=true) (hp:Nat.ble 1 te.size=true) (R:Nat.beq (ln te.zero) te.size=true) (M:te.zero.all (·.oneCell')=true) (O:Nat.beq (uH te).cells.length te.size=true) (au:(uH te).cells=te.zero.map .s):
  wX P st (.call ⟨.builtin .append, #[s,x], #[T,I]⟩) (.ref kn 0 n) [(kn,.arr te.size (pb n (uH te)) false)] [] [kn]:=by
 refine⟨?_⟩;intro X tm h hg _ hn o a w β ho HH Ht;obtain⟨d0,o0,y0,p0,f0,g0⟩:=o;dsimp only at ho;subst ho;have h1:=vP Ht hg (x:=s) kQ hs;have h2:=vP Ht hg (x:=x) kQ hx;have hp:=zA8 hp;have hb:=zA8 hb;have R:=zBo R;have O:=zBo O;subst a8;obtain⟨i,z,C,hi,hz,e1,e2,e3⟩:=wY hP hT hd he;obtain⟨_,u2,_,_,ba,_,a1,_⟩:=uG (hP _ _ hI);obtain rfl:=HJ (a1.symm.trans a2)
 have av:n*i.bytes<=281474976710656:=by
  have:=zDi ac (show i.bytes<=65536 by omega);omega
 have hw:IntKind.i64.wrap (n:Int)=(n:Int):=kI ⟨by show(-9223372036854775808:Int)<=_;omega,by show _<=(9223372036854775807:Int);omega⟩
 have a9:n*i.size≠0:=by
  have:1*1<=n*i.size:=zDi B (by omega);omega
 have ax:¬(281474976710656<(n:Int)*(i.bytes:Int)):=by
  grind
 have V:¬(281474976710656<Builtin.nextslicecap n 0*i.bytes):=by rw[nextslicecap_zero B];omega
 have az:¬(9223372036854775807<(n:Int)):=by omega
 have a6:n≠0:=by omega
 have ag:¬((n:Int)<0):=by omega
 have ap:(Builtin.append_ #[T,I] y0 #[.slice none 0 0,.int .i64 (n:Int)]).run P w= .ok (.slice (some ⟨w.heap.size,0,none⟩) n (grownCap w n 0 e)) (w.drew.alloc (.cells (Builtin.zeroCells z.cells n++Builtin.zeroCells z.cells (grownCap w n 0 e-n)) e)):=by
  have ha:(asIntOf (.int .i64 (n:Int))).run P w= .ok (.i64,(n:Int)) w:=rfl;have a7:¬((n:Int)<=0):=by omega
  simp[Builtin.append_,run_underlying C,run_underlying ba,sizeOf,typeInfo,zeroValue,hi,hz,asInt,ha,hw,ag,a7,ax,a9,a6,az,V,Question.forced,run_firstCells_none,newRow,grownCap]
 have a3:(execOp a.eval ⟨d0,.call ⟨.builtin .append, #[s,x], #[T,I]⟩,y0,p0,f0,g0⟩).run P w= .ok (.value (.slice (some ⟨w.heap.size,0,none⟩) n (grownCap w n 0 e))) (w.drew.alloc (.cells (Builtin.zeroCells z.cells n++Builtin.zeroCells z.cells (grownCap w n 0 e-n)) e)):=by
  simp[execOp,resolve,invoke,builtin,h1,h2,ap]
 rw[a3];have HD:=HH.drew (w.drawn+1);have S:z.cells.size=te.size:=by rw[<-R,<-e3];simp
 have bk:=grownCap_ge w n 0 e;have A:(pb n (uH te)).length=n:=by simp
 have W:∀(j:Nat) v,(pb n (uH te))[j]? =some v->v=uH te:=λj v hv=>by
  grind
 have E:∀j,j<te.size->∃v,te.zero[j]? =some v/\z.cells.getD j undef=v:=λj hj=>by
  have:=jN z.cells j (by omega)
  grind
 obtain⟨β',G,hv⟩:=xU.newArr HD (hn kn zV) (Builtin.zeroCells z.cells n++Builtin.zeroCells z.cells (grownCap w n 0 e-n)) e te.size (pb n (uH te)) (grownCap w n 0 e) (λ_ j=>z.cells.getD j undef) hp (by rw[A];unfold dY;omega) (by rw[A];omega) (by
   simp only[zE5,size_zeroCells,S,<-zB2]
   congr 1;omega) (kD.get ((kD.zero (λv hv=>zA5.1 M v NC) _).app (kD.zero (λv hv=>zA5.1 M v NC) _)))
  (λj v hv=>by rw[W j v hv];exact O) (λU j hi' hj=>by
   rw[A]at hi'
   have Y:U*te.size+j<n*te.size:=by
    have:=zBe te.size (show U+1<=n by omega)
    grind
   have a5:(U*te.size+j) % te.size=j:=by rw[zEs,zFf];exact zDl hj
   rw[zCu (by rw[size_zeroCells,S];exact Y)];have a4:j<z.cells.size:=by omega
   simp only[Builtin.zeroCells,zFo,zE9,S,Y,zE0,zCn,a5]
   congr 1
   simp[zBu,a4]) (λU j _ hj=>by
   obtain⟨v,hv,bb⟩:=E j hj;rw[bb]
   exact zA5.1 M v (zCc hv)) (λU v j u hv C=>by
   rw[W U v hv,au]at C;rw[zAz]at C
   have hj:j<te.size:=by
    cases ar:te.zero[j]? with
    |none=>rw[ar]at C;cases C
    |some v9=>have:=(zBj.1 ar).1;omega
   obtain⟨v2,bd,bf⟩:=E j hj;rw[bd]at C;cases C;rw[bf]
   exact .s _)
 rw[A]at hv;exact⟨β',xU.trans HH (xU.drew HH (w.drawn+1)) G,hv⟩
def ML (C:uZ P TT) (hx:yX (zK st.tm) x= .s (.slice none 0 0)) (hT:TT[T]? =some ti) (hd:ti.d= .slice e):
  wX P st (.call ⟨.builtin .cap, #[x], #[T]⟩) (.s (.int .i64 0)) [] [] []:=
 yZ λI X V h w β a A E S M B=>by
  obtain⟨d0,o0,W,U,O,R⟩:=I;dsimp only at A;subst A;have hc:=vP B E (x:=x) kQ hx;obtain⟨u,G,z⟩:=wH (C _ _ hT) w;obtain rfl:=uB (z.trans hd);exact⟨_,by simp[execOp,resolve,invoke,builtin,Builtin.cap_,hc,G,goInt],.fz _ _ (.s _)⟩
def wd (C:uZ P TT) {k:IntKind} (hx:yX (zK st.tm) x= .s (.slice none 0 0)) (hl:yX (zK st.tm) l= .s (.int k 0)) (hT:TT[T]? =some ti) (hd:ti.d= .slice e) (I:TT[e]? =some te):
  wX P st (.slice T x none (some l) none) (.s (.slice none 0 0)) [] [] []:=
 yZ λR X tm h w β a G E W S B=>by
  obtain⟨d0,o0,y0,Y,U,V⟩:=R;dsimp only at G;subst G;have hc:=vP B E (x:=x) uO hx;obtain⟨u,O,z⟩:=wH (C _ _ hT) w;obtain rfl:=uB (z.trans hd);have M:=qK (C _ _ I) w;have hb:=fK (P:=P) B E (lo:=none) (hi:=some l) (len:=0) (cap:=0) (l:=0) (r:=0) (λy A=>by cases A) (λy A=>by cases A;simp[Op.operands]) Z ⟨k,0,hl,by omega⟩ (zAw _) (zAw _) true;rw[zDu]at hb;exact⟨_,by simp only[execOp,Instr.sliceAt,Instr.slice,Sem.run_bind,O,Result.andThen_ok,hc,zDu,hb,M,Sem.run_pure];rfl,.fz _ _ (.s _)⟩
theorem IB (hP:uZ P TT) {key:Nat} {yl:List AV} (b3:yX (zK st.tm) d= .ref key off len) (hk:zD st.h key=some (.arr sz xs false)) (hx:yX (zK st.tm) x=xv) (hT:TT[T]? =some ti) (hd:ti.d= .slice e) (he:TT[e]? =some te)
 (cb:CR (zD st.h) xv=some yl) (I:yl.take len=ys) (b9:∀y,ys[0]? =some y->ln y.cells=sz) (bs:1<=ln ys\/yl.length<=len) (a1:Nat.beq sz te.size=true):
  wX P st (.call ⟨.builtin .copy, #[d,x], #[T,T]⟩) (.s (.int .i64 (ln ys))) [(key,.arr sz (xs.take off++ys++xs.drop (off+ln ys)) false)] (key::PK xv) []:=by
 refine⟨?_⟩;intro X tm h hg hr _ o a w β ho HH Ht;obtain⟨d0,o0,y0,p0,f0,g0⟩:=o;dsimp only at ho;subst ho;have hk':=(hr key zV).trans hk;have h1:=fC Ht hg (x:=d) kQ b3;have h2:=fC Ht hg (x:=x) kQ hx;have a1:=zBo a1;obtain⟨g1,g2,g3,g4,g5,f,g6,g7,g8⟩:=HH.ent key _ hk'
 obtain⟨ad,cap,hc,_,b4,az⟩:=cQ (sz:=sz) HH h2 ((fL λk' hk=>hr k' (by simp[hk])).trans cb) (λy B=>b9 y (by
  rcases bs with h|h
  .rw[<-I,zCg,f5 (by have:ln ys<=len:=(by rw[<-I];simp;omega);omega)];exact B
  .rw[<-I,zA1 h];exact B))
 have hn:ln ys<=len:=by rw[<-I];simp;omega
 have a4:ln ys=min len (ln yl):=by rw[<-I];simp
 have ax:min (ln yl) len=ln ys:=by rw[a4,Nat.min_comm]
 have cg:ln ys<=ln yl:=by omega
 have bu:ys≠[]->∃b o f,ad=some ⟨b,o,none⟩/\Qz w (xT X β) h β false ys sz b o f:=λb5=>by
  obtain⟨b,o,f,e,hS⟩:=az (λh0=>b5 (by rw[<-I,h0];simp))
  have bb:∀(i:Nat) y,ys[i]? =some y->yl[i]? =some y:=λi y B=>by
   rw[<-I,zCg]at B;split at B
   .exact B
   .cases B
  exact⟨b,o,f,e,λi y B=>hS.wide i y (bb i y B),λi j hi hj=>hS.cell i j (by omega) hj,λi j hi hj=>hS.one i j (by omega) hj,λi y j v B hv=>hS.rep i y j v (bb i y B) hv⟩
 obtain⟨i,z,hu,hi,cj,e1,e2,e3⟩:=wY hP hT hd he
 have bl:∀b n,(b,n)∈β key->n=ln xs\/n=0:=λb n hb=>by
  cases hbk:β key with
  |nil=>rw[hbk]at hb;simp at hb
  |cons q rr=>
   obtain⟨b0,n0⟩:=q;obtain⟨q1,q2,_⟩:=g5 b0 n0 rr hbk;rw[hbk]at hb;simp at hb
   rcases hb with⟨_,rfl⟩|hb
   .exact .inl q1
   .exact .inr (q2 Z b n hb)
 have br:∀{w'},(Builtin.copy_ #[T,T] y0 #[a.eval d,a.eval x]).run P w= .ok (goInt (ln ys)) w'->(execOp a.eval ⟨d0,.call ⟨.builtin .copy, #[d,x], #[T,T]⟩,y0,p0,f0,g0⟩).run P w= .ok (.value (.int .i64 (ln ys))) w':=λhv=>by
  simp[execOp,resolve,invoke,builtin,hv,goInt]
 by_cases M:ys=[]
 .obtain rfl:yl=[]:=by
   rcases bs with h|h
   .rw[M]at h;simp at h
   .rw[zA1 h]at I;rw[I,M]
  subst M;have ca:xs.take off++[]++xs.drop (off+([]:List AV).length)=xs:=by simp
  rw[ca]
  obtain⟨bd,cp,av⟩:∃bd cp,a.eval d= .slice bd len cp:=by
   generalize a.eval d=cx at h1
   cases h1 with
   |fz _ _ hf=>cases hf
   |dref _ _ _ _ hd _=>rw[hk']at hd;cases hd
   |ref _ _ _ _ _ _ _ _ _ _ _ _ _ _=>exact⟨_,_,rfl⟩
   |ref0 _ _ _ _ _ _ _ _=>exact⟨_,_,rfl⟩
  have ag:(Builtin.firstCells i.size 0 (.slice ad 0 cap)).run P w= .ok #[] w:=by
   cases ad with
   |none=>rfl
   |some a=>simp only[Builtin.firstCells,loadCells,zEa,loadCellsFrom];rfl
  rw[br (w':=w) (by
   rw[av,hc]
   cases bd with
   |none=>simp[Builtin.copy_,run_underlying hu,sizeOf,typeInfo,hi,Builtin.lenOf,ag]
   |some b=>simp[Builtin.copy_,run_underlying hu,sizeOf,typeInfo,hi,Builtin.lenOf,ag,storeCells])]
  have G:=xU.step (w':=w) HH key (.arr sz xs false) (β key) (zAw _) (λ_ _ _=>rfl) Z Z Z (λb n V=> .inl ⟨n,V⟩) (λ_ _ _=>rfl) (λe he=>by rw[hk']at he;cases he;exact .inr ⟨⟨_,_,rfl,zAw _⟩,λ_ n V=>⟨n,zAw _,V⟩⟩)
   (λE=>⟨g1,g2,λh=>by rw[yL];exact g3 h,g4,λb n r hr=>by rw[yL]at hr;exact g5 b n r hr,f,gF.evo E g6,g7,λb n V=>by rw[yL]at V;exact g8 b n V⟩)
  exact⟨_,G,.fz _ _ (.s _)⟩
 obtain⟨b2,q,fy,rfl,hS⟩:=bu M
 have cd:0<ln ys:=by cases ys with|nil=>exact absurd Z M|cons _ _=>simp
 obtain⟨ag,a8⟩:=hS.flat g1
 obtain⟨b,n,cp,av,O,ch,ce⟩:∃b n cp,a.eval d= .slice (some ⟨b,off*sz,none⟩) len cp/\(b,n)∈β key/\off+len<=n/\len<=cp:=by
  generalize a.eval d=cx at h1
  cases h1 with
  |fz _ _ hf=>cases hf
  |dref _ _ _ _ hd _=>rw[hk']at hd;cases hd
  |ref _ _ _ ck cl st' b n cp bf hb hn b1 ci=>
   rw[hk']at bf;cases bf;exact⟨b,n,cp,rfl,hb,hn,b1⟩
  |ref0 _ _ _ _ _ _ _ _=>omega
 have b6:n=ln xs:=by rcases bl b n O with h|h<;>omega
 subst b6;obtain⟨U,el,c1,c2,c3,c4⟩:=g8 b _ O;have ap:(off+ln ys)*sz<=U.size:=zBw (zBe _ (by omega)) c2;have a9:=run_firstCells_some (P:=P) w sz (ln ys) ⟨b2,q,none⟩ (ln yl) cap (flat fy (ln ys) sz) (zZ _ _ _) ag;have a2:=run_storeCells_at P b (off*sz) el (flat fy (ln ys) sz) 0 U w c1 (by rw[zZ,zDh,<-zB2];exact ap) a8;simp only[zDh]at a2;generalize R:(U.toList.take (off*sz)++flat fy (ln ys) sz++U.toList.drop (off*sz+(flat fy (ln ys) sz).length)).toArray=A at a2
 rw[br (w':=w.setRow b A) (by
  rw[av,hc];have a5:i.size=sz:=e1.trans a1.symm;rw[<-a5]at a9;have bx:(storeCells ⟨b,off*sz,none⟩ (flat fy (ln ys) i.size)).run P w= .ok () (w.setRow b A):=by rw[a5];exact a2
  simp[Builtin.copy_,run_underlying hu,Builtin.lenOf,sizeOf,typeInfo,hi,ax,a9,bx])]
 rw[zB2]at ap
 have ar:A.size=U.size:=by
  rw[<-R];simp only[zDq,zAv,zBg,zBr,zDs,zZ];omega
 have Y:∀q,q<A.size->(A.getD q undef).oneCell'=true:=by
  rw[<-R];refine kD.get (kD.arr λv hv=>?_);have a7:=kD.of c4
  rcases zBc.1 hv with hv|hv
  .rcases zBc.1 hv with hv|hv
   .exact a7 v (zCo hv)
   .exact a8 v hv
  .exact a7 v (zBz hv)
 let f':Nat->Nat->Value:=λi j=>if off<=i/\i<off+ln ys then fy (i-off) j else f i j
 have cc:off+ln ys<=ln xs:=by omega
 have S:(xs.take off++ys++xs.drop (off+ln ys)).length=ln xs:=by
  simp only[zAv,zBg,zBr];omega
 have a6:∀(i:Nat) y,(xs.take off++ys++xs.drop (off+ln ys))[i]? =some y->(off<=i/\i<off+ln ys/\ys[i-off]? =some y)\/(¬(off<=i/\i<off+ln ys)/\xs[i]? =some y):=λi y B=>by
  have ht:(xs.take off).length=off:=by simp;omega
  by_cases h5:i<off
  .rw[zBh,zBp (by omega),zCg,f5 h5]at B;exact .inr ⟨by omega,B⟩
  .by_cases h6:i<off+ln ys
   .rw[zBh,zBq (by omega),ht,zBp (by omega)]at B;exact .inl ⟨by omega,h6,B⟩
   .rw[zBq qA]at B;simp only[zAv,ht]at B;rw[zCz,show off+ln ys+(i-(off+ln ys))=i by omega]at B;exact .inr ⟨by omega,B⟩
 have au:∀i j,i<ln xs->j<sz->A[i*sz+j]? =some (f' i j):=λi j hi hj=>by
  rw[<-R];simp only[f',zDg];by_cases h5:i<off
  .have bk:i*sz+j<off*sz:=by
    have:=zBe sz (show i+1<=off by omega);rw[zB2,zC2]at this;omega
   rw[Os (by omega),zBh,zBp qA,zCg,f5 bk];simpa using c3 i j hi hj
  .have ht:(List.take (off*sz) U.toList).length=off*sz:=by simp;omega
   have cf:off*sz<=i*sz:=zBe _ (by omega);by_cases h6:i<off+ln ys
   .have e4:i*sz+j-off*sz=(i-off)*sz+j:=by rw[zFm];omega
    have bk:(i-off)*sz+j<ln ys*sz:=by
     have:=zBe sz (show(i-off)+1<=ln ys by omega);rw[zB2,zC2]at this;omega
    rw[f5 (by omega),zBh,zBq (by rw[ht];omega),ht,zBp (by rw[zZ];omega),e4];exact kR fy (by omega) hj
   .have ba:(off+ln ys)*sz<=i*sz:=zBe _ (by omega);rw[zB2]at ba;rw[Os (by omega),zBq (by simp only[zAv,ht,zZ];omega),zCz];simp only[zAv,ht,zZ];rw[show off*sz+ln ys*sz+(i*sz+j-(off*sz+ln ys*sz))=i*sz+j by omega];simpa using c3 i j hi hj
 obtain⟨rr,hbk,b7⟩:∃rr,β key=(b,ln xs)::rr/\∀b' n',(b',n')∈rr->n'=0:=by
  cases hbk:β key with
  |nil=>rw[hbk]at O;simp at O
  |cons q r=>
   obtain⟨b0,n0⟩:=q;obtain⟨q1,q2,_⟩:=g5 b0 n0 r hbk;have q2:=q2 Z;rw[hbk]at O;simp at O
   rcases O with⟨rfl,rfl⟩|V
   .exact⟨r,rfl,q2⟩
   .have:=q2 b _ V;omega
 refine⟨cY β key (β key),xU.step HH key _ _ zV (λj hj hn=>setRow_other w b j A (λe=>hn (ln xs) Te)) Z Z Z (λb n V=> .inl ⟨n,V⟩) (λb n _=>kJ c1 ar b)
  (λe he=>by rw[hk']at he;cases he;exact .inr ⟨⟨_,_,rfl,by rw[S];exact zAw _⟩,λ_ n V=>⟨n,zAw _,V⟩⟩) λE=>⟨g1,by rw[S];exact g2,λ_=>by rw[yL,hbk];simp,λW x' a3=>?_,λb' n' r C=>?_,f',λW x' j u a3 hu=>?_,λW j hi' hj=>?_,λb' n' C=>?_⟩,.fz _ _ (.s _)⟩
 .rcases a6 W x' a3 with⟨_,_,h⟩|⟨_,h⟩
  .exact hS.wide _ x' h
  .exact g4 W x' h
 .rw[yL]at C;rw[S];exact g5 b' n' r C
 .simp only[f']
  rcases a6 W x' a3 with⟨q1,q2,h⟩|⟨q1,h⟩
  .rw[f5 ⟨q1,q2⟩];exact⟨(hS.rep.toV _ x' j u h hu).evo E,λ_=>(hS.rep.toF Z _ x' j u h hu).evo E.size E.fz⟩
  .rw[Os q1];exact⟨(g6.toV W x' j u h hu).evo E,λ_=>(g6.toF Z W x' j u h hu).evo E.size E.fz⟩
 .rw[S]at hi';simp only[f'];split
  .exact hS.one _ _ (by omega) hj
  .exact g7 W j hi' hj
 .rw[yL]at C
  rcases bl b' n' C with rfl|rfl
  .have ac:b'=b:=by
    rw[hbk]at C;simp at C
    rcases C with rfl|h
    .rfl
    .have:=b7 b' _ h;omega
   subst ac;exact⟨A,el,setRow_heap w _ _ _ _ _ c1,by rw[ar];exact c2,λW j hi' hj=>au W j hi' hj,Y⟩
  .by_cases ac:b'=b
   .subst ac;exact⟨A,el,setRow_heap w _ _ _ _ _ c1,by omega,λW j hi' _=>by omega,Y⟩
   .obtain⟨c',bz,q1,q2,_,q4⟩:=g8 b' 0 C;exact⟨c',bz,(setRow_other w b b' A ac).trans q1,q2,λW j hi' _=>by omega,q4⟩
def Kn (E:uZ P TT) {key:Nat} (u:yX (zK st.tm) d= .ref key off len) (hk:zD st.h key=some (.arr sz xs false)) (hx:yX (zK st.tm) x=xv) (hT:TT[T]? =some ti) (hd:ti.d= .slice e) (G:TT[e]? =some te)
 (B:CR (zD st.h) xv=some ys) (A:∀y,ys[0]? =some y->ln y.cells=sz) (z:Nat.beq sz te.size=true) (C:ln ys<=len):
  wX P st (.call ⟨.builtin .copy, #[d,x], #[T,T]⟩) (.s (.int .i64 (ln ys))) [(key,.arr sz (xs.take off++ys++xs.drop (off+ln ys)) false)] (key::PK xv) []:=
 IB E u hk hx hT hd G B (zA1 C) A (.inr C) z
end
section
variable {P:Program} {K0:List Nat} {F:Fr K0} {m:Nat} {tm:List (Nat×AV)} {h:List (Nat×xW)}
theorem wK.trunc (R:wK F m ⟨tm,h⟩ a w) (t kn K:Nat) {st:Fl} (M:K0=[]) (hv:zK tm t= .ref kn 0 0) (hk:zD h kn=some (.arr sz xs st)):wK F m ⟨[(t,.ref K 0 0)],[(K,.arr sz [] true)]⟩ a w:=by
 obtain⟨⟨X,β,hX,H,Ht,G,hJ,hD⟩,nd,gs,hl⟩:=R;have g:=H.ent kn _ hk;obtain⟨g1,g2,g3,g4,g5,f,g6,g7,g8⟩:=g;have h1:=Ht t;rw[hv]at h1
 have O:∀k e,zD [(K,xW.arr sz [] true)] k=some e->k=K/\e= .arr sz [] true:=λk e C=>by
  rw[xK]at C;split at C
  .rename_i hh;cases C;exact⟨hh,rfl⟩
  .cases C
 have key:∀l:List (Nat×Nat),(∀b n,(b,n)∈l->n=0/\∃z,(b,z)∈β kn)->(l=[]\/∃b,l=[(b,0)])->yI w (xT X λk=>if k=K then l else []) (zD [(K,xW.arr sz [] true)]) (λk=>if k=K then l else []) (.ref K 0 0) (a.eval (.tmp t))->wK F m ⟨[(t,.ref K 0 0)],[(K,.arr sz [] true)]⟩ a w:=by
  intro l V W S
  have B:∀k b n,(b,n)∈(if k=K then l else [])->k=K/\n=0/\∃z,(b,z)∈β kn:=λk b n u=>by
   split at u
   .rename_i hh;exact⟨hh,V b n u⟩
   .simp at u
  have U:∀b,xT X (λk=>if k=K then l else []) b->xT X β b:=λb hd=>by
   rcases hd with hx|⟨k,n,u⟩
   .exact .inl hx
   .obtain⟨_,_,z,A⟩:=B k b n u;exact .inr ⟨kn,z,A⟩
  have HH:jL X (zD [(K,xW.arr sz [] true)]) (λk=>if k=K then l else []) w:=by
   refine⟨λk e C=>?_,λk C=>?_,λk k' b n z q1 q2=>?_,λk b n u=>?_,λb hd=>H.lt b (U b hd)⟩
   .obtain⟨rfl,rfl⟩:=O k e C;refine⟨g1,by simp,λh=>absurd Z h,λi y Y=>by simp at Y,λb n r I=>?_,λ_ _=>undef,λi y j v Y _=>by simp at Y,λi j hi _=>by simp at hi,λb n u=>?_⟩
    ·(try dsimp only at I)
     rw[f5 Z]at I
     rcases W with A|⟨b5,A⟩
     .rw[A]at I;cases I
     .rw[A]at I;cases I;exact⟨rfl,λh=>(by cases h),λb' z u=>by simp at u⟩
    .obtain⟨_,rfl,z,A⟩:=B _ b n u;obtain⟨c,el,q1,_,_,q4⟩:=g8 b z A;exact⟨c,el,q1,by omega,λi j hi _=>by omega,q4⟩
   ·(try dsimp only)
    split
    .rename_i hh;rw[hh,xK,f5 Z]at C;cases C
    .rfl
   .obtain⟨r1,_⟩:=B k b n q1;obtain⟨r2,_⟩:=B k' b z q2;exact r1.trans r2.symm
   .obtain⟨_,_,z,A⟩:=B k b n u;exact H.free kn b z A
  refine⟨⟨X,_,hX,HH,λj=>?_,⟨λk e C=>?_,G.size,G.keep,λk b n u=>?_,λk b n u=>?_,G.bs,G.os,G.tape,G.output⟩,λi hi=>?_,hD⟩,λk E=>?_,gs,hl⟩
  .rw[xF];split
   .rename_i hj;subst hj;exact S
   .exact .fz _ _ (.bot _)
  .have:=F.hh k e C;rw[M]at this;simp at this
  .obtain⟨_,_,z,A⟩:=B k b n u;exact G.own kn b z A
  .have:=F.hK k b n u;rw[M]at this;simp at this
  .rw[xF]at hi
   split at hi<;>cases hi
  .obtain⟨_,A⟩:=O k _ E;cases A
 generalize ap:a.eval (.tmp t)=c at h1 key
 cases h1 with
 |fz _ _ hf=>cases hf
 |dref _ _ _ _ hd _=>exact absurd hd (nd kn)
 |ref0 _ _ ac ag st' ad E hn=>
  refine key [] (λb n u=>by simp at u) (.inl Z) ?_;exact .ref0 K 0 sz [] true ad (by rw[xK,f5 Z]) (zAw _)
 |ref _ _ _ ac ag st' b n cap E hb hn hc hs=>
  rw[hk]at E;cases E;refine key [(b,0)] (λb' z u=>by simp at u;obtain⟨rfl,rfl⟩:=u;exact⟨rfl,n,hb⟩) (.inr ⟨b,rfl⟩) ?_;exact .ref K 0 0 sz [] true b 0 cap (by rw[xK,f5 Z]) zV (zAw _) hc hs
def Bh (t kn K:Nat) {st:Fl} (u:K0=[]) (hv:zK tm t= .ref kn 0 0) (hk:zD h kn=some (.arr sz xs st)) (z:uD P F m c ⟨[(t,.ref K 0 0)],[(K,.arr sz [] true)]⟩ Q):uD P F m c ⟨tm,h⟩ Q:=
 ⟨λa w H=>z.run a w (H.trunc t kn K u hv hk)⟩
end
section
variable {P:Program} {TT:List TI} {K0:List Nat} {F:Fr K0} {m:Nat} {ops:Array Oper} {rest:List Oper} {Q:List FP->St->Prop} {tm:List (Nat×AV)} {h:List (Nat×xW)} {dr:Bool} {fs:List FP}
variable {ty:Nat} {pos:String} {after:Array Edge} {t:Nat}
def wy (E:uZ P TT) {key:Nat} {C:List AV} (u:yX (zK tm) d= .ref key off len) (hk:zD h key=some (.arr sz xs false)) (hx:yX (zK tm) x=xv) (hT:TT[T]? =some ti) (hd:ti.d= .slice e) (G:TT[e]? =some te)
 (B:CR (zD h) xv=some ys) (A:∀y,ys[0]? =some y->ln y.cells=sz) (z:Nat.beq sz te.size=true) (M:ln ys<=len) (R:xs.take off++ys++xs.drop (off+ln ys)=C) (I:Nat.blt t m=true)
 (O:yN P F m ops dr rest ⟨(t,.s (.int .i64 (ln ys)))::tm,(key,.arr sz C false)::h⟩ (⟨true,[key],key::PK xv⟩::fs) Q):yN P F m ops dr (⟨some t,.call ⟨.builtin .copy, #[d,x], #[T,T]⟩,ty,pos,after,none⟩::rest) ⟨tm,h⟩ fs Q:=by
 subst R;exact uU (nw:=[]) (Kn E u hk hx hT hd G B A z M) I Z Z O
def dM (z:uZ P TT) {k:IntKind} {i:Int} (hx:yX (zK tm) x= .ref key 0 len) (hk:zD h key=some (.arr sz xs sl)) (hl:yX (zK tm) l= .s (.int k i)) (hT:TT[T]? =some ti) (hd:ti.d= .slice e) (A:TT[e]? =some te)
 (u:Nat.beq sz te.size=true) (h0:0<=i) (h1:i<=len) (B:Nat.blt t m=true) (C:yN P F m ops dr rest ⟨(t,.ref key i.toNat (len-i.toNat))::tm,h⟩ (⟨true,[],[key]⟩::fs) Q):
  yN P F m ops dr (⟨some t,.slice T x (some l) none none,ty,pos,after,none⟩::rest) ⟨tm,h⟩ fs Q:=by
 have:=cZ (P:=P) (st:=⟨tm,h⟩) (lo:=some l) (hi:=none) (l:=i.toNat) (r:=len) z hx hk hT hd A ⟨k,i,hl,by omega⟩ rfl (by omega) (zAw _) u;rw[zB7]at this;exact wM this B C
def Mf (z:uZ P TT) {k:IntKind} (hx:yX (zK tm) x= .ref key 0 len) (hk:zD h key=some (.arr sz xs sl)) (hl:yX (zK tm) l= .s (.int k 0)) (hT:TT[T]? =some ti) (hd:ti.d= .slice e) (A:TT[e]? =some te)
 (u:Nat.beq sz te.size=true) (B:Nat.blt t m=true) (C:yN P F m ops dr rest ⟨(t,.ref key 0 0)::tm,h⟩ (⟨true,[],[key]⟩::fs) Q):
  yN P F m ops dr (⟨some t,.slice T x none (some l) none,ty,pos,after,none⟩::rest) ⟨tm,h⟩ fs Q:=by
 have:=cZ (P:=P) (st:=⟨tm,h⟩) (lo:=none) (hi:=some l) (l:=0) (r:=0) z hx hk hT hd A Z ⟨k,0,hl,by omega⟩ (zAw _) (zA9 _) u;exact wM this B C
def Lu (W:uZ P TT) {I n:Nat} {U:TI} {k0:IntKind} {z:AV} (hs:yX (zK tm) s= .s (.slice none 0 0)) (hx:yX (zK tm) x= .s (.int .i64 nx)) (hT:TT[T]? =some ti) (hd:ti.d= .slice e) (Y:TT[e]? =some te) (V:TT[I]? =some U) (C:U.d= .int k0)
 (hb:Nat.ble te.bytes 65536=true) (hp:Nat.ble 1 te.size=true) (S:Nat.beq (ln te.zero) te.size=true) (O:te.zero.all (·.oneCell')=true) (R:Nat.beq (uH te).cells.length te.size=true) (B:(uH te).cells=te.zero.map .s) (hz:uH te=z)
 (G:nx=(n:Int)) (A:1<=n) (u:n<=1073741824) (hm:Nat.blt t m=true) (E:(zD h t).isNone=true)
 (M:te.size=sz) (hk:yN P F m ops dr rest ⟨(t,.ref t 0 n)::tm,(t,.arr sz (pb n z) false)::h⟩ (⟨true,[t,t],[]⟩::fs) Q):yN P F m ops dr (⟨some t,.call ⟨.builtin .append, #[s,x], #[T,I]⟩,ty,pos,after,none⟩::rest) ⟨tm,h⟩ fs Q:=by
 subst M hz;exact uU (nw:=[t]) (Ch W t hs hx hT hd Y V C G A u hb hp S O R B) hm (Mb E) Z hk
end
mutual
def MM (k L:Nat):AV->Prop
 | .ref j off len=>j=k->off=0/\len=L
 | .ptr j _ _=>j≠k
 | .agg cs| .fn _ cs| .tup cs=>fQ k L cs
 |_=>True
def fQ (k L:Nat):List AV->Prop
 | []=>True
 |v::r=>MM k L v/\fQ k L r
end
def FA (k L:Nat):List (Nat×AV)->Prop
 | []=>True
 |(_,v)::r=>MM k L v/\FA k L r
def FB (k L:Nat):List (Nat×xW)->Prop
 | []=>True
 |(_,e)::r=>(match e with
  | .box cs=>fQ k L cs
  | .obj cs=>True
  | .arr _ xs u=>u.nest=false\/fQ k L xs
  | .dead=>True)/\FB k L r
theorem fQ.at :∀{cs:List AV} {i:Nat} {v:AV},fQ k L cs->cs[i]? =some v->MM k L v
 | [],_,_,_,h=>by simp at h
 |x::r,0,v,hk,h=>by simp at h;subst h;exact hk.1
 |x::r,i+1,v,hk,h=>fQ.at hk.2 OZ
theorem FA.at :∀{u:List (Nat×AV)},FA k L u->∀t,MM k L (zK u t)
 | [],_,t=>trivial
 |(j,v)::r,h,t=>by
  rw[xF];split
  .exact h.1
  .exact FA.at h.2 t
theorem FB.at :∀{h:List (Nat×xW)} {j:Nat} {e:xW},FB k L h->zD h j=some e->match e with
  | .box cs=>fQ k L cs
  | .obj cs=>True
  | .arr _ xs z=>z.nest=false\/fQ k L xs
  | .dead=>True
 | [],_,_,_,u=>by simp[zD]at u
 |(i,e0)::r,j,e,h,u=>by
  rw[xK]at u;split at u
  .cases u;exact h.1
  .exact FB.at h.2 u
theorem MM.cells {x:AV} (h:MM k L x):fQ k L x.cells:=by
 cases x<;>first
  |exact h
  |exact⟨h,trivial⟩
theorem yI.whole {D':Nat->Prop} {h':yS} {β':uM} (k L:Nat) (E:∀b,D' b->D b) (hh:∀j,j≠k->h' j=h j) (hβ:∀j,j≠k->β' j=β j) (M:∀c,yI w D h β (.ref k 0 L) c->yI w D' h' β' (.ref k 0 L) c) {c:Value} (hv:yI w D h β v c):MM k L v->yI w D' h' β' v c:=by
 have key:∀{off len j c},(j=k->off=0/\len=L)->yI w D h β (.ref j off len) c->(j≠k->yI w D' h' β' (.ref j off len) c)->yI w D' h' β' (.ref j off len) c:=λ{off len j c} h1 h2 h3=>by
  grind
 induction hv with
 |fz v c G=>exact λ_=> .fz v c (G.less E)
 |agg cs c hl h1 B A=>exact λhk=> .agg cs c hl h1 λi v hv=>A i v hv (fQ.at hk hv)
 |fn f u c hl B A=>exact λhk=> .fn f u c hl λi v hv=>A i v hv (fQ.at hk hv)
 |tup vs c hl B A=>exact λhk=> .tup vs c hl λi v hv=>A i v hv (fQ.at hk hv)
 |dref j off len c hk' h1=>exact λhk=>key hk (.dref j off len c hk' h1) λhj=> .dref j off len c ND h1
 |dptr j i off c hk' h1=>exact λhk=> .dptr j i off c Fk h1
 |ref j off len sz xs st b n cap hk' hb z hc C=>exact λhk=>key hk (.ref j off len sz xs st b n cap hk' hb z hc C) λhj=> .ref j off len sz xs st b n cap ND Se z hc C
 |ref0 j off sz xs st a hk' z=>exact λhk=>key hk (.ref0 j off sz xs st a hk' z) λhj=> .ref0 j off sz xs st a ND z
 |pbox j off cs b n hk' hb=>exact λhk=> .pbox j off cs b n Fk (by rw[hβ j hk];exact hb)
 |parr j i off sz xs st b n hk' hb hi I=>exact λhk=> .parr j i off sz xs st b n Fk (by rw[hβ j hk];exact hb) hi I
section
variable {P:Program} {K0:List Nat} {F:Fr K0} {m:Nat} {tm:List (Nat×AV)} {h:List (Nat×xW)}
end
section
variable {P:Program} {TT:List TI} {K0:List Nat} {F:Fr K0} {m:Nat} {ops:Array Oper} {dr:Bool} {rest:List Oper} {fs:List FP} {Q:List FP->St->Prop} {tm:List (Nat×AV)} {h:List (Nat×xW)} {ty:Nat} {pos:String} {after:Array Edge} {t:Nat}
def qF (k:Nat) (E:uZ P TT) {C:Array (Nat×Operand)} (hT:TT[T]? =some ti) (hd:ti.d= .slice e) (G:TT[e]? =some te) (M:Nat.ble 1 te.size=true) (z:bL ⟨tm,h⟩ C=(xs.zipIdx 0).map λx=>(x.2,x.1)) (hl:Nat.beq (ln xs) len=true)
 (O:xs.all (λx=>Nat.beq (ln x.cells) te.size&&x.ok)=true) (hb:Nat.ble (len*te.size) 65536=true) (B:Nat.beq (ln te.zero) te.size=true) (I:Nat.blt t m=true) (u:(zD h k).isNone=true)
 (A:te.size=sz) (hk:yN P F m ops dr rest ⟨(t,.ref k 0 len)::tm,(k,.arr sz xs ⟨false,true⟩)::h⟩ (⟨true,[k,k],[]⟩::fs) Q):yN P F m ops dr (⟨some t,.buildSlice T len C,ty,pos,after,none⟩::rest) ⟨tm,h⟩ fs Q:=by
 subst A;exact uU (nw:=[k]) (QO E k hT hd G M z hl O hb B) I (Mb u) Z hk
end
