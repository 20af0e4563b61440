/- Part 13: contracts of the functions, and what they rest upon. -/
import Derived.Test.YtaikgchmpieooaaGreatP12
namespace Go.Proofs.YtaikgchmpieooaaGreat
namespace Av
set_option linter.unusedSimpArgs false
set_option linter.unusedVariables false
section
def frc {β:Type} (v:AV) (K:AV→Option β):Option β:=match v with
 | .s v=>K (.s v)
 | .ptr k i o=>K (.ptr k i o)
 | .agg cs=>K (.agg cs)
 | .sl b xs=>K (.sl b xs)
 | .slc b xs=>K (.slc b xs)
 | .ref k o n=>K (.ref k o n)
 | .fp xs i o=>K (.fp xs i o)
 | .fn f cs=>K (.fn f cs)
 | .tup vs=>K (.tup vs)
 | .bot=>K .bot
 | .gh n=>K (.gh n)
theorem frc_eq {β:Type} (v:AV) (K:AV→Option β):frc v K=K v:=by cases v<;>rfl
def frcL {β:Type}:List AV→(List AV→Option β)→Option β
 | [],K=>K []
 |x::r,K=>frc x fun x=>frcL r fun r=>K (x::r)
theorem frcL_eq {β:Type}:∀(l:List AV) (K:List AV→Option β),frcL l K=K l
 | [],_=>rfl
 |x::r,K=>by rw[frcL,frc_eq,frcL_eq r]
abbrev Res:=AV×List (Nat×Ent)×List Nat×List Nat
def ldR (ti:TI) (row:List AV) (off:Nat) (r:List Nat):Option Res:=
 bif ti.d.agg then(bif Nat.ble (off+ti.size) row.length then frcL ((row.drop off).take ti.size) fun l=>some (.agg l,[],r,[])else none)
 else match row[off]? with
  |some v=>frc v fun v=>some (v,[],r,[])
  |none=>none
def isCmp:BinOp→Bool
 | .eql| .neq| .lss| .leq| .gtr| .geq=>true
 |_=>false
def rangeIs:Nat→List Nat→Bool
 |_,[]=>true
 |n,x::r=>Nat.beq x n&&rangeIs (n+1) r
def exec (TT:List TI) (tm:List (Nat×AV)) (h:List (Nat×Ent)) (t:Nat):Op→Option Res
 | .move x=>frc (opv (look tm) x) fun v=>some (v,[],[],[])
 | .assign x=>frc (opv (look tm) x) fun v=>some (v,[],[],[])
 | .pick c x y=>match opv (look tm) c with
  | .s (.bool b)=>bif b then frc (opv (look tm) x) fun v=>some (v,[],[],[])else frc (opv (look tm) y) fun v=>some (v,[],[],[])
  |_=>none
 | .extract x i=>match opv (look tm) x with
  | .tup vs=>match vs[i]? with
   |some v=>frc v fun v=>some (v,[],[],[])
   |none=>none
  |_=>none
 | .box _ x=>match opv (look tm) x with
  | .agg cs=>some (.ptr t 0 0,[(t,.box cs)],[],[t])
  |v=>bif v.one then frc v fun v=>some (.ptr t 0 0,[(t,.box [v])],[],[t])else none
 | .alloc T=>match TT[T]? with
  |some ti=>bif ti.zero.all (·.oneCell')then frcL (ti.zero.map AV.s) fun l=>some (.ptr t 0 0,[(t,.box l)],[],[t])else none
  |none=>none
 | .load T x=>match opv (look tm) x,TT[T]? with
  | .ptr k 0 off,some ti=>match lookE h k with
   |some (.box cs)=>ldR ti cs off [k]
   |some (.arr _ xs _)=>match xs[0]? with
    |some y=>ldR ti y.cells off [k]
    |none=>none
   |_=>none
  | .ptr k (i+1) off,some ti=>match lookE h k with
   |some (.arr _ xs _)=>match xs[i+1]? with
    |some y=>ldR ti y.cells off [k]
    |none=>none
   |_=>none
  | .fp xs i off,some ti=>match xs[i]? with
   |some y=>ldR ti y.cells off []
   |none=>none
  |_,_=>none
 | .store T p x=>match opv (look tm) p,TT[T]? with
  | .ptr k 0 off,some ti=>match lookE h k with
   |some (.box cs)=>frc (opv (look tm) x) fun v=>bif v.ok&&(Nat.beq v.cells.length ti.size&&Nat.ble (off+ti.size) cs.length)then frcL (setL cs off v.cells) fun l=>some (.bot,[(k,.box l)],[k],[])else none
   |_=>none
  |_,_=>none
 | .fieldAddr T x f=>match opv (look tm) x,TT[T]? with
  | .ptr k 0 off,some ti=>match lookE h k,ti.d with
   | some (.box _),.str fs=>match fs[f]? with
    |some (o,ft)=>match TT[ft]? with
     |some tf=>bif Nat.ble 1 tf.size then some (.ptr k 0 (off+o),[],[k],[])else none
     |none=>none
    |none=>none
   |_,_=>none
  |_,_=>none
 | .field T x f=>match opv (look tm) x,TT[T]? with
  | .agg cs,some ti=>match ti.d with
   | .str fs=>match fs[f]? with
    |some (o,ft)=>match TT[ft]? with
     |some tf=>ldR tf cs o []
     |none=>none
    |none=>none
   |_=>none
  |_,_=>none
 | .nilCheck x=>match opv (look tm) x with
  | .ptr k 0 off=>match lookE h k with
   |some (.box _)=>some (.ptr k 0 off,[],[k],[])
   |_=>none
  |_=>none
 | .unOp .not _ x=>match opv (look tm) x with
  | .s (.bool b)=>some (.s (.bool !b),[],[],[])
  |_=>none
 | .makeFunc (.func f) ⟨[]⟩ cap=>frcL (cap.toList.map (opv (look tm))) fun l=>some (.fn f l,[],[],[])
 | .build T ps=>match TT[T]? with
  | some ti=>match ti.d with
   | .str fs=>bif ti.zero.all (·.oneCell')then(match plOf TT fs with
    |some pl=>match fillA (pl[·]?) (ti.zero.map .s) (prts ⟨tm,h⟩ ps)with
     |some cs=>frcL cs fun l=>some (.agg l,[],[],[])
     |none=>none
    |none=>none)else none
   | .arr _ e=>bif ti.zero.all (·.oneCell')then(match TT[e]? with
    |some te=>match fillA (fun i=>some (i*te.size,te.size)) (ti.zero.map .s) (prts ⟨tm,h⟩ ps)with
     |some cs=>frcL cs fun l=>some (.agg l,[],[],[])
     |none=>none
    |none=>none)else none
   |_=>none
  |none=>none
 | .buildSlice T len ps=>match TT[T]? with
  | some ti=>match ti.d with
   | .slice e=>match TT[e]? with
    | some te=>bif rangeIs 0 (ps.toList.map (·.1))&&(Nat.beq ps.toList.length len&&(Nat.ble 1 te.size&&(Nat.ble (len*te.size) 65536&&Nat.beq te.zero.length te.size)))then
      frcL (ps.toList.map fun p=>opv (look tm) p.2) fun xs=>bif xs.all (fun x=>Nat.beq x.cells.length te.size&&(x.ok&&x.nokey))then some (.ref t 0 len,[(t,.arr te.size xs false)],[],[t])else none else none
    |none=>none
   |_=>none
  |none=>none
 | .call ⟨.builtin .len,⟨[x]⟩,⟨[T]⟩⟩=>match TT[T]? with
  | some ti=>match ti.d with
   | .slice _=>match opv (look tm) x with
    | .sl _ xs=>some (.s (.int .i64 xs.length),[],[],[])
    | .ref k _ len=>match lookE h k with
     |some (.arr _ _ _)=>some (.s (.int .i64 len),[],[k],[])
     |_=>none
    | .s (.slice _ n _)=>some (.s (.int .i64 n),[],[],[])
    |_=>none
   |_=>none
  |none=>none
 | .call ⟨.builtin .max,⟨[x,y]⟩,⟨[_,_]⟩⟩=>match opv (look tm) x,opv (look tm) y with
  | .s (.int .i64 m),.s (.int .i64 n)=>some (.s (.int .i64 (max m n)),[],[],[])
  |_,_=>none
 | .call ⟨.builtin .min,⟨[x,y]⟩,⟨[_,_]⟩⟩=>match opv (look tm) x,opv (look tm) y with
  | .s (.int .i64 m),.s (.int .i64 n)=>some (.s (.int .i64 (min m n)),[],[],[])
  |_,_=>none
 |_=>none
section
variable {P:Program} {TT:List TI} (hP:TOK P TT) {tm:List (Nat×AV)} {h:List (Nat×Ent)} {t:Nat}
theorem ldR_eq {ti:TI} {row:List AV} {off:Nat} {r:List Nat} {v:AV} {d:List (Nat×Ent)} {r' nw:List Nat} (he:ldR ti row off r=some (v,d,r',nw)):ldv ti.d.agg ti.size row off=some v∧d=[]∧r'=r∧nw=[]:=by
 unfold ldR at he
 unfold ldv
 cases hb:ti.d.agg with
 |true=>
  simp only[hb,cond_true,frcL_eq]at he
  cases hc:Nat.ble (off+ti.size) row.length with
  |true=>simp only[hc,cond_true,Option.some.injEq,Prod.mk.injEq]at he;simp[he.1,he.2.1,he.2.2.1,he.2.2.2]
  |false=>simp[hc]at he
 |false=>
  simp only[hb,cond_false]at he
  cases hr:row[off]? with
  |none=>simp[hr]at he
  |some u=>simp only[hr,frc_eq,Option.some.injEq,Prod.mk.injEq]at he;simp[he.1,he.2.1,he.2.2.1,he.2.2.2]
theorem rangeIs_eq:∀(l:List Nat) (n:Nat),rangeIs n l=true→∀(j:Nat) x,l[j]? =some x→x=n+j
 | [],_,_,_,_,h=>by simp at h
 |y::r,n,hr,0,x,h=>by simp at h;subst h;simp[rangeIs]at hr;omega
 |y::r,n,hr,j+1,x,h=>by
  simp only[rangeIs,Bool.and_eq_true]at hr
  have:=rangeIs_eq r (n+1) hr.2 j x (by simpa using h)
  omega
include hP in
theorem exec_sound:∀{op:Op} {v:AV} {d:List (Nat×Ent)} {r nw:List Nat},exec TT tm h t op=some (v,d,r,nw)→Stp P ⟨tm,h⟩ op v d r nw:=by
 intro op v d r nw he
 unfold exec at he
 split at he
 ·simp only[frc_eq,Option.some.injEq,Prod.mk.injEq]at he
  obtain⟨rfl,rfl,rfl,rfl⟩:=he
  exact stp_move rfl
 ·simp only[frc_eq,Option.some.injEq,Prod.mk.injEq]at he
  obtain⟨rfl,rfl,rfl,rfl⟩:=he
  exact stp_assign rfl
 ·split at he
  ·rename_i b hb
   cases b<;>simp only[cond_true,cond_false,frc_eq,Option.some.injEq,Prod.mk.injEq]at he<;>obtain⟨rfl,rfl,rfl,rfl⟩:=he<;>exact stp_pick hb rfl
  ·cases he
 ·split at he
  ·rename_i hx
   split at he
   ·rename_i hv
    simp only[frc_eq,Option.some.injEq,Prod.mk.injEq]at he
    obtain⟨rfl,rfl,rfl,rfl⟩:=he
    exact stp_extract hx hv
   ·cases he
  ·cases he
 ·rename_i T x
  generalize hx:opv (look tm) x=u at he
  by_cases ha:u.isAgg=true
  ·cases u<;>simp[AV.isAgg]at ha
   simp only[Option.some.injEq,Prod.mk.injEq]at he
   obtain⟨rfl,rfl,rfl,rfl⟩:=he
   exact stp_box (v:= .agg _) t hx rfl
  ·have he2:(bif u.one then some (AV.ptr t 0 0,[(t,Ent.box [u])],([]:List Nat),[t])else none)=some (v,d,r,nw):=by
    cases u<;>first|exact he|(simp[AV.isAgg]at ha)
   cases ho:u.one with
   |false=>rw[ho]at he2;cases he2
   |true=>
    rw[ho]at he2
    simp only[cond_true,Option.some.injEq,Prod.mk.injEq]at he2
    obtain⟨rfl,rfl,rfl,rfl⟩:=he2
    have ok:u.ok=true:=by cases u<;>first|rfl|exact ho
    have e:u.cells=[u]:=by cases u<;>first|rfl|(simp[AV.one]at ho)
    have:=stp_box (P:=P) (T:=T) (st:=⟨tm,h⟩) t hx ok
    rwa [e]at this
 ·split at he
  ·rename_i ti hT
   cases hz:ti.zero.all (·.oneCell')with
   |false=>simp[hz]at he
   |true=>
    simp only[hz,cond_true,frcL_eq,Option.some.injEq,Prod.mk.injEq]at he
    obtain⟨rfl,rfl,rfl,rfl⟩:=he
    exact stp_alloc hP t hT hz
  ·cases he
 ·split at he
  ·rename_i k off ti hx hT
   split at he
   ·rename_i cs hk
    obtain⟨q1,rfl,rfl,rfl⟩:=ldR_eq he
    exact stp_load_box hP hx hk hT q1
   ·rename_i xs _ hk
    split at he
    ·rename_i y hy
     obtain⟨q1,rfl,rfl,rfl⟩:=ldR_eq he
     exact stp_load_arr hP hx hk hy hT q1
    ·cases he
   ·cases he
  ·rename_i k i off ti hx hT
   split at he
   ·rename_i xs _ hk
    split at he
    ·rename_i y hy
     obtain⟨q1,rfl,rfl,rfl⟩:=ldR_eq he
     exact stp_load_arr hP hx hk hy hT q1
    ·cases he
   ·cases he
  ·rename_i xs i off ti hx hT
   split at he
   ·rename_i y hy
    obtain⟨q1,rfl,rfl,rfl⟩:=ldR_eq he
    exact stp_load_fp hP hx hy hT q1
   ·cases he
  ·cases he
 ·rename_i T p x
  split at he
  ·rename_i k off ti hp hT
   split at he
   ·rename_i cs hk
    rw[frc_eq]at he
    cases hc:((opv (look tm) x).ok&&(Nat.beq (opv (look tm) x).cells.length ti.size&&Nat.ble (off+ti.size) cs.length))with
    |false=>rw[hc]at he;cases he
    |true=>
     rw[hc]at he
     simp only[cond_true,frcL_eq,Option.some.injEq,Prod.mk.injEq]at he
     obtain⟨rfl,rfl,rfl,rfl⟩:=he
     simp only[Bool.and_eq_true]at hc
     exact stp_store_box hP hp rfl hk hT hc.1 hc.2.1 hc.2.2
   ·cases he
  ·cases he
 ·split at he
  ·rename_i k off ti hx hT
   split at he
   ·rename_i cs fs hk hd
    split at he
    ·rename_i o ft hf
     split at he
     ·rename_i tf hft
      cases hz:Nat.ble 1 tf.size with
      |false=>simp[hz]at he
      |true=>
       simp only[hz,cond_true,Option.some.injEq,Prod.mk.injEq]at he
       obtain⟨rfl,rfl,rfl,rfl⟩:=he
       exact stp_fieldAddr_box hP hx hk hT hd hf hft hz
     ·cases he
    ·cases he
   ·cases he
  ·cases he
 ·split at he
  ·rename_i cs ti hx hT
   split at he
   ·rename_i fs hd
    split at he
    ·rename_i o ft hf
     split at he
     ·rename_i tf hft
      obtain⟨q1,rfl,rfl,rfl⟩:=ldR_eq he
      exact stp_field hP hx hT hd hf hft q1
     ·cases he
    ·cases he
   ·cases he
  ·cases he
 ·split at he
  ·rename_i hx
   split at he
   ·rename_i hk
    simp only[Option.some.injEq,Prod.mk.injEq]at he
    obtain⟨rfl,rfl,rfl,rfl⟩:=he
    exact stp_nilCheck_box hx hk
   ·cases he
  ·cases he
 ·split at he
  ·rename_i hx
   simp only[Option.some.injEq,Prod.mk.injEq]at he
   obtain⟨rfl,rfl,rfl,rfl⟩:=he
   exact stp_not hx
  ·cases he
 ·simp only[frcL_eq,Option.some.injEq,Prod.mk.injEq]at he
  obtain⟨rfl,rfl,rfl,rfl⟩:=he
  exact stp_makeFunc
 ·split at he
  ·rename_i ti hT
   split at he
   ·rename_i fs hd
    cases hz:ti.zero.all (·.oneCell')with
    |false=>simp[hz]at he
    | true=>
     simp only[hz,cond_true]at he
     split at he
     ·rename_i pl hpl
      split at he
      ·rename_i cs hf
       simp only[frcL_eq,Option.some.injEq,Prod.mk.injEq]at he
       obtain⟨rfl,rfl,rfl,rfl⟩:=he
       exact stp_build hP hT hd hz hpl hf
      ·cases he
     ·cases he
   ·rename_i e hd
    cases hz:ti.zero.all (·.oneCell')with
    |false=>simp[hz]at he
    | true=>
     simp only[hz,cond_true]at he
     split at he
     ·rename_i te hte
      split at he
      ·rename_i cs hf
       simp only[frcL_eq,Option.some.injEq,Prod.mk.injEq]at he
       obtain⟨rfl,rfl,rfl,rfl⟩:=he
       exact stp_build_arr hP hT hd hte hz hf
      ·cases he
     ·cases he
   ·cases he
  ·cases he
 ·split at he
  ·rename_i ti hT
   split at he
   ·rename_i e hd
    split at he
    ·rename_i T len ps _ _ _ te hte
     rw[frcL_eq]at he
     cases hc:(rangeIs 0 (ps.toList.map (·.1))&&(Nat.beq ps.toList.length len&&(Nat.ble 1 te.size&&(Nat.ble (len*te.size) 65536&&Nat.beq te.zero.length te.size))))with
     |false=>rw[hc]at he;cases he
     | true=>
      rw[hc]at he
      simp only[cond_true]at he
      generalize hxs:(ps.toList.map fun p=>opv (look tm) p.2)=xs at he
      cases hw:xs.all (fun x=>Nat.beq x.cells.length te.size&&(x.ok&&x.nokey))with
      |false=>simp[hw]at he
      | true=>
       simp only[hw,cond_true,Option.some.injEq,Prod.mk.injEq]at he
       obtain⟨rfl,rfl,rfl,rfl⟩:=he
       simp only[Bool.and_eq_true]at hc
       obtain⟨c1,c2,c3,c4,c5⟩:=hc
       refine stp_buildSlice hP t hT hd hte c3 ?_ (by rw[←hxs];simpa using c2) hw c4 c5
       rw[←hxs]
       apply List.ext_getElem?
       intro j
       simp only[prts,List.getElem?_map,List.getElem?_zipIdx,Nat.zero_add]
       cases hj:ps.toList[j]? with
       |none=>simp
       |some p=>
        have:=rangeIs_eq _ 0 c1 j p.1 (by simp[hj])
        simp[this]
    ·cases he
   ·cases he
  ·cases he
 ·split at he
  ·rename_i ti hT
   split at he
   ·rename_i hd
    split at he
    ·rename_i hx
     simp only[Option.some.injEq,Prod.mk.injEq]at he
     obtain⟨rfl,rfl,rfl,rfl⟩:=he
     exact stp_len_sl hP hx hT hd
    ·rename_i hx
     split at he
     ·rename_i hk
      simp only[Option.some.injEq,Prod.mk.injEq]at he
      obtain⟨rfl,rfl,rfl,rfl⟩:=he
      exact stp_len_ref hP hx hk hT hd
     ·cases he
    ·rename_i hx
     simp only[Option.some.injEq,Prod.mk.injEq]at he
     obtain⟨rfl,rfl,rfl,rfl⟩:=he
     exact stp_len_nil hP hx hT hd
    ·cases he
   ·cases he
  ·cases he
 ·split at he
  ·rename_i hx hy
   simp only[Option.some.injEq,Prod.mk.injEq]at he
   obtain⟨rfl,rfl,rfl,rfl⟩:=he
   exact stp_max hx hy
  ·cases he
 ·split at he
  ·rename_i hx hy
   simp only[Option.some.injEq,Prod.mk.injEq]at he
   obtain⟨rfl,rfl,rfl,rfl⟩:=he
   exact stp_min hx hy
  ·cases he
 ·cases he
end
def cmpP:BinOp→Int→Int→Prop
 | .eql,a,b=>a=b
 | .neq,a,b=>a≠b
 | .lss,a,b=>a<b
 | .leq,a,b=>a≤b
 | .gtr,a,b=>b<a
 | .geq,a,b=>b≤a
 |_,_,_=>False
def cmpB:BinOp→Int→Int→Bool
 | .eql,a,b=>a==b
 | .neq,a,b=>a != b
 | .lss,a,b=>decide (a<b)
 | .leq,a,b=>decide (a≤b)
 | .gtr,a,b=>decide (b<a)
 | .geq,a,b=>decide (b≤a)
 |_,_,_=>false
section
variable {P:Program} {TT:List TI} {K0:List Nat} {F:Fr K0} {m:Nat} {ops:Array Oper} {rest:List Oper} {Q:List FP→St→Prop} {tm:List (Nat×AV)} {h:List (Nat×Ent)} {dr:Bool} {fs:List FP}
variable {ty:Nat} {pos:String} {after:Array Edge} {t:Nat}
theorem x_auto (hP:TOK P TT) {op:Op} {v:AV} {r:List Nat} (he:exec TT tm h t op=some (v,[],r,[])) (hm:Nat.blt t m=true) (hk:OpsX P F m ops dr rest ⟨(t,v)::tm,h⟩ (⟨true,[],r⟩::fs) Q):
 OpsX P F m ops dr (⟨some t,op,ty,pos,after,none⟩::rest) ⟨tm,h⟩ fs Q:=x_q (exec_sound hP he) hm hk
theorem x_autow (hP:TOK P TT) {op:Op} {v:AV} {k:Nat} {e:Ent} {r nw:List Nat} (he:exec TT tm h t op=some (v,[(k,e)],r,nw)) (hm:Nat.blt t m=true) (hn:nw.all (fun j=>(lookE h j).isNone)=true) (hd:noDead [(k,e)]=true)
 (hk:OpsX P F m ops dr rest ⟨(t,v)::tm,(k,e)::h⟩ (⟨true,k::nw,r⟩::fs) Q):OpsX P F m ops dr (⟨some t,op,ty,pos,after,none⟩::rest) ⟨tm,h⟩ fs Q:=x_w (exec_sound hP he) hm hn hd hk
theorem x_autos (hP:TOK P TT) {op:Op} {v:AV} {k:Nat} {e:Ent} {r nw:List Nat} (he:exec TT tm h 0 op=some (v,[(k,e)],r,nw)) (hn:nw.all (fun j=>(lookE h j).isNone)=true) (hd:noDead [(k,e)]=true)
 (hk:OpsX P F m ops dr rest ⟨tm,(k,e)::h⟩ (⟨true,k::nw,r⟩::fs) Q):OpsX P F m ops dr (⟨none,op,ty,pos,after,none⟩::rest) ⟨tm,h⟩ fs Q:=x_s (exec_sound hP he) hn hd hk
section
variable {op:BinOp} {tx t2:Nat} {x y:Operand} {k:IntKind} {a b:Int} (hop:isCmp op=true) (hx:opv (look tm) x= .s (.int k a)) (hy:opv (look tm) y= .s (.int k b))
include hop hx hy
theorem stp_cmp:Stp P ⟨tm,h⟩ (.binOp op tx x y t2) (.s (.bool (cmpB op a b))) [] [] []:=by
 cases op<;>first
  |exact stp_eql hx hy
  |exact stp_neq hx hy
  |exact stp_lss hx hy
  |exact stp_leq hx hy
  |exact stp_gtr hx hy
  |exact stp_geq hx hy
  |(simp[isCmp]at hop)
theorem stp_cmp_t (hh:cmpP op a b):Stp P ⟨tm,h⟩ (.binOp op tx x y t2) (.s (.bool true)) [] [] []:=by
 cases op<;>first
  |exact stp_eq_t hx hy hh
  |exact stp_ne_t hx hy hh
  |exact stp_lt_t hx hy hh
  |exact stp_le_t hx hy hh
  |exact stp_gt_t hx hy hh
  |exact stp_ge_t hx hy hh
  |(simp[isCmp]at hop)
theorem stp_cmp_f (hh:¬cmpP op a b):Stp P ⟨tm,h⟩ (.binOp op tx x y t2) (.s (.bool false)) [] [] []:=by
 cases op<;>first
  |exact stp_eq_f hx hy hh
  |exact stp_ne_f hx hy (by simpa [cmpP]using hh)
  |exact stp_lt_f hx hy hh
  |exact stp_le_f hx hy hh
  |exact stp_gt_f hx hy hh
  |exact stp_ge_f hx hy hh
  |(simp[isCmp]at hop)
end
end
end
section
theorem goes_virt {X:Nat→Prop} {h:Heap} {β:Map} {w:World} (H:HOK X h β w) {K:Nat} (hK:h K=none) {sz:Nat} (hp:1≤sz):Goes X w h β w (over [(K,.arr sz [] true)] h) (upd β K []):=
 Goes.step H K _ _ (Nat.le_refl _) (fun _ _ _=>rfl) rfl rfl rfl (fun b n hm=>by simp at hm) (fun _ _ _=>rfl) (fun e he=>by rw[hK]at he;cases he) (fun E=>⟨hp,by simp,fun h=>absurd rfl h,fun i y hy=>by simp at hy,
  fun b n r hr=>by rw[upd_same]at hr;simp at hr,fun _ _=>undef,fun i y j v hy _=>by simp at hy,fun i j hi _=>by simp at hi,fun b n hm=>by rw[upd_same]at hm;simp at hm⟩)
theorem noDead_over {d:List (Nat×Ent)} {h:Heap} (hd:noDead d=true) (nd:∀k,h k≠some .dead):∀k,over d h k≠some .dead:=fun k=>by
 unfold over
 split
 ·rename_i e he
  intro h4
  cases h4
  exact noDead_at hd he
 ·exact nd k
section
variable {P:Program} {K0:List Nat} {F:Fr K0} {m:Nat} {tm:List (Nat×AV)} {h:List (Nat×Ent)}
theorem RelS.virt {a:Act} {w:World} (H:RelS F m ⟨tm,h⟩ a w) (t K sz:Nat) (hv:look tm t= .s (.slice none 0 0)) (hK:(lookE h K).isNone=true) (hp:Nat.ble 1 sz=true):RelS F m ⟨(t,.ref K 0 0)::tm,(K,.arr sz [] true)::h⟩ a w:=by
 obtain⟨⟨X,β,hX,HH,Ht,KK,hJ,hD⟩,nd,gs,hl⟩:=H
 have hk:lookE h K=none:=by simpa using hK
 have G:=goes_virt HH hk (Nat.le_of_ble_eq_true hp)
 have nd':∀k,over [(K,.arr sz [] true)] (lookE h) k≠some .dead:=noDead_over rfl nd
 have R:Rel F m (look ((t,.ref K 0 0)::tm)) (over [(K,.arr sz [] true)] (lookE h)) a w:=by
  refine⟨⟨X,_,hX,G.hok,fun j=>?_,KK.goes G nd' (G.lives HH nd'),fun i hi=>?_,hD.goes HH G⟩,nd',gs,hl⟩
  ·rw[look_cons]
   split
   ·rename_i hj
    subst hj
    have:=Ht j
    rw[hv]at this
    rw[this.s_inv]
    exact .ref0 K 0 sz [] true none (over_same _ _ _) (Nat.le_refl _)
   ·exact(Ht j).evo G.evo
  ·rw[look_cons]at hi
   split at hi
   ·cases hi
   ·exact F.go G (hJ i hi)
 unfold RelS
 dsimp only
 rw[show lookE ((K,.arr sz [] true)::h)=over [(K,.arr sz [] true)] (lookE h)from lookE_append [(K,.arr sz [] true)] h]
 exact R
theorem RelS.virtB {a:Act} {w:World} (H:RelS F m ⟨tm,h⟩ a w) (k i K sz:Nat) {cs:List AV} (hk:lookE h k=some (.box cs)) (hv:cs[i]? =some (.s (.slice none 0 0))) (hK:(lookE h K).isNone=true) (hp:Nat.ble 1 sz=true):RelS F m ⟨tm,(k,.box (cs.set i (.ref K 0 0)))::(K,.arr sz [] true)::h⟩ a w:=by
 obtain⟨⟨X,β,hX,HH,Ht,KK,hJ,hD⟩,nd,gs,hl⟩:=H
 have hkn:lookE h K=none:=by simpa using hK
 have G:=goes_virt HH hkn (Nat.le_of_ble_eq_true hp)
 have nd':∀k,over [(K,.arr sz [] true)] (lookE h) k≠some .dead:=noDead_over rfl nd
 have hne:k≠K:=fun e=>by rw[e,hkn]at hk;cases hk
 have hk2:over [(K,.arr sz [] true)] (lookE h) k=some (.box cs):=by rw[←lookE_append,List.singleton_append,lookE_cons,if_neg hne];exact hk
 have H2:=G.hok
 have hβ:upd β K [] k=β k:=by unfold upd;rw[if_neg hne]
 have G2:Goes X w _ (upd β K []) w (over [(k,.box (cs.set i (.ref K 0 0)))] (over [(K,.arr sz [] true)] (lookE h))) (upd (upd β K []) k (upd β K [] k)):=
  Goes.step H2 k (.box (cs.set i (.ref K 0 0))) (upd β K [] k) (Nat.le_refl _) (fun _ _ _=>rfl) rfl rfl rfl (fun b n hm=> .inl ⟨n,hm⟩) (fun _ _ _=>rfl) (fun e he=>by rw[hk2]at he;cases he;exact .inr ⟨⟨_,rfl⟩,fun b n hm=>hm⟩) (fun E=>by
   obtain⟨b,c,el,h1,h2,h3,h4,h5⟩:=H2.ent k _ hk2
   refine⟨b,c,el,by rw[upd_same];exact h1,h2,by simpa using h3,h4,fun j v hj=>?_⟩
   rw[List.getElem?_set]at hj
   split at hj
   ·rename_i hij
    subst hij
    split at hj
    ·injection hj with hj
     subst hj
     have h6:=h5 i _ hv
     rw[h6.s_inv]
     refine .ref0 K 0 sz [] true none ?_ (Nat.le_refl _)
     rw[show over [(k,Ent.box (cs.set i (.ref K 0 0)))] (over [(K,.arr sz [] true)] (lookE h)) K=_ from by rw[←lookE_append,←lookE_append,List.singleton_append,List.singleton_append,lookE_cons,if_neg (fun e=>hne e.symm),lookE_cons,if_pos rfl]]
    ·cases hj
   ·exact(h5 j v hj).evo E)
 have nd2:=noDead_over (d:=[(k,.box (cs.set i (.ref K 0 0)))]) rfl nd'
 have R:Rel F m (look tm) (over [(k,.box (cs.set i (.ref K 0 0)))] (over [(K,.arr sz [] true)] (lookE h))) a w:=
  ⟨⟨X,_,hX,G2.hok,fun j=>((Ht j).evo G.evo).evo G2.evo,(KK.goes G nd' (G.lives HH nd')).goes G2 nd2 (G2.lives H2 nd2),fun i hi=>F.go G2 (F.go G (hJ i hi)),(hD.goes HH G).goes H2 G2⟩,nd2,gs,hl⟩
 unfold RelS
 dsimp only
 rw[show lookE ((k,.box (cs.set i (.ref K 0 0)))::(K,.arr sz [] true)::h)=over [(k,.box (cs.set i (.ref K 0 0)))] (over [(K,.arr sz [] true)] (lookE h))from(lookE_append [(k,.box (cs.set i (.ref K 0 0)))] _).trans (congrArg (over _) (lookE_append [(K,.arr sz [] true)] h))]
 exact R
theorem sim_virt {c:Code} {Q:Exit→St→Prop} (t K sz:Nat) (hv:look tm t= .s (.slice none 0 0)) (hK:(lookE h K).isNone=true) (hp:Nat.ble 1 sz=true) (hk:Sim P F m c ⟨(t,.ref K 0 0)::tm,(K,.arr sz [] true)::h⟩ Q):Sim P F m c ⟨tm,h⟩ Q:=⟨fun a w H=>hk.run a w (H.virt t K sz hv hK hp)⟩
theorem sim_virtB {c:Code} {Q:Exit→St→Prop} (k i K sz:Nat) {cs cs':List AV} (hb:lookE h k=some (.box cs)) (hv:cs[i]? =some (.s (.slice none 0 0))) (hK:(lookE h K).isNone=true) (hp:Nat.ble 1 sz=true) (hc:cs.set i (.ref K 0 0)=cs') (hk:Sim P F m c ⟨tm,(k,.box cs')::(K,.arr sz [] true)::h⟩ Q):
 Sim P F m c ⟨tm,h⟩ Q:=⟨fun a w H=>hk.run a w (hc▸H.virtB k i K sz hb hv hK hp)⟩
end
section
variable {P:Program} {TT:List TI} (hP:TOK P TT) {tm:List (Nat×AV)} {h:List (Nat×Ent)}
include hP in
theorem stp_indexAddr_r0 {T e:Nat} {x ix:Operand} {ti te:TI} {key len sz:Nat} {xs:List AV} {sl:Fl} {k:IntKind} {i:Int} (hx:opv (look tm) x= .ref key 0 len) (hi:opv (look tm) ix= .s (.int k i)) (hk:lookE h key=some (.arr sz xs sl)) (hT:TT[T]? =some ti) (hd:ti.d= .slice e) (he:TT[e]? =some te)
  (h0:0≤i) (hl:i<len) (hs:Nat.beq sz te.size=true):Stp P ⟨tm,h⟩ (.indexAddr T x ix) (.ptr key i.toNat 0) [] [key] []:=by
 have:=stp_indexAddr_ref (st:=⟨tm,h⟩) hP hx hi hk hT hd he h0 hl hs
 rwa [Nat.zero_add]at this
end
section
variable {P:Program} {K0:List Nat} {F:Fr K0} {m:Nat} {ops:Array Oper} {rest:List Oper} {Q:List FP→St→Prop} {dr:Bool} {fs:List FP}
variable {ty t:Nat} {pos:String} {after:Array Edge} {st:St}
theorem is_app {s x:Operand} {T T':Nat} (hk:OpsX P F m ops dr (⟨some t,.call ⟨.builtin .append, #[s,x], #[T,T']⟩,ty,pos,after,none⟩::rest) st fs Q):OpsX P F m ops dr (⟨some t,.call ⟨.builtin .append, #[s,x], #[T,T']⟩,ty,pos,after,none⟩::rest) st fs Q:=hk
theorem is_fn (n:Nat) {asq:Array Operand} {ts:Array Nat} (hk:OpsX P F m ops dr (⟨some t,.call ⟨.value (.func n),asq,ts⟩,ty,pos,after,none⟩::rest) st fs Q):OpsX P F m ops dr (⟨some t,.call ⟨.value (.func n),asq,ts⟩,ty,pos,after,none⟩::rest) st fs Q:=hk
theorem is_conv {S D:Nat} {x:Operand} (hk:OpsX P F m ops dr (⟨some t,.convert S D x,ty,pos,after,none⟩::rest) st fs Q):OpsX P F m ops dr (⟨some t,.convert S D x,ty,pos,after,none⟩::rest) st fs Q:=hk
theorem is_un {op:UnOp} {x:Operand} {T:Nat} (hk:OpsX P F m ops dr (⟨some t,.unOp op T x,ty,pos,after,none⟩::rest) st fs Q):OpsX P F m ops dr (⟨some t,.unOp op T x,ty,pos,after,none⟩::rest) st fs Q:=hk
end
theorem stp_conv_in {P:Program} {TT:List TI} {tm:List (Nat×AV)} {h:List (Nat×Ent)} {src dst:Nat} {x:Operand} {k k':IntKind} {n:Int} {ts td:TI} (hP:TOK P TT) (hs:TT[src]? =some ts) (hd:TT[dst]? =some td) (hk:td.d= .int k') (hx:opv (look tm) x= .s (.int k n)) (hr:InR k' n):
  Stp P ⟨tm,h⟩ (.convert src dst x) (.s (.int k' n)) [] [] []:=by
 have:=stp_conv (st:=⟨tm,h⟩) hP hs hd hk hx
 rwa [wrap_in hr]at this
end
section
def frcP (v:AV) (k:AV→Prop):Prop:=match v with
 | .s v=>k (.s v)
 | .ptr j i o=>k (.ptr j i o)
 | .agg cs=>k (.agg cs)
 | .sl b xs=>k (.sl b xs)
 | .slc b xs=>k (.slc b xs)
 | .ref j o n=>k (.ref j o n)
 | .fp xs i o=>k (.fp xs i o)
 | .fn f cs=>k (.fn f cs)
 | .tup vs=>k (.tup vs)
 | .bot=>k .bot
 | .gh n=>k (.gh n)
theorem frcP_eq (v:AV) (k:AV→Prop):frcP v k=k v:=by cases v<;>rfl
def frcLP:List AV→(List AV→Prop)→Prop
 | [],k=>k []
 |x::r,k=>frcP x fun x=>frcLP r fun r=>k (x::r)
theorem frcLP_eq:∀(l:List AV) (k:List AV→Prop),frcLP l k=k l
 | [],_=>rfl
 |x::r,k=>by rw[frcLP,frcP_eq,frcLP_eq r]
def slotsC (K:List Nat) (h:Heap) (tm:List (Nat×AV)):List Nat→(List (Nat×AV)→Prop)→Prop
 | [],k=>k []
 |t::ts,k=>frcP (frzV K h (look tm t)) fun v=>slotsC K h tm ts fun r=>k ((t,v)::r)
theorem slotsC_eq (K:List Nat) (h:Heap) (tm:List (Nat×AV)):∀(ts:List Nat) (k:List (Nat×AV)→Prop),slotsC K h tm ts k=k (ts.map fun t=>(t,frzV K h (look tm t)))
 | [],_=>rfl
 |t::ts,k=>by rw[slotsC,frcP_eq,slotsC_eq K h tm ts];rfl
def heapC (K:List Nat) (h:Heap):List Nat→(List (Nat×Ent)→Prop)→Prop
 | [],k=>k []
 |j::Ks,k=>match h j with
  |none=>heapC K h Ks k
  |some (.box cs)=>frcLP (frzL K h cs) fun cs=>heapC K h Ks fun r=>k ((j,.box cs)::r)
  |some (.arr sz xs st)=>bif st.nest then frcLP (frzL K h xs) fun xs=>(bif nokeys xs then heapC K h Ks fun r=>k ((j,.arr sz xs ⟨st.stale,false⟩)::r)else heapC K h Ks fun r=>k ((j,.arr sz xs ⟨st.stale,true⟩)::r))else heapC K h Ks fun r=>k ((j,.arr sz xs st)::r)
  |some .dead=>heapC K h Ks fun r=>k ((j,.dead)::r)
theorem heapC_eq (K:List Nat) (h:Heap):∀(Ks:List Nat) (k:List (Nat×Ent)→Prop),heapC K h Ks k=k (Ks.filterMap fun j=>(h j).map fun e=>(j,frzE K h e))
 | [],_=>rfl
 | j ::Ks,k=>by
  rw[heapC,List.filterMap_cons]
  cases h j with
  |none=>exact heapC_eq K h Ks k
  | some e=>
   cases e with
   |box cs=>dsimp only[Option.map_some];rw[frcLP_eq,heapC_eq K h Ks];rfl
   | arr sz xs st=>
    dsimp only[Option.map_some]
    cases hn:st.nest with
    |false=>
     have e:frzE K h (.arr sz xs st)= .arr sz xs st:=by simp only[frzE,hn,cond_false]
     rw[e];simp only[cond_false];rw[heapC_eq K h Ks]
    |true=>
     have e:frzE K h (.arr sz xs st)= .arr sz (frzL K h xs) ⟨st.stale,!nokeys (frzL K h xs)⟩:=by simp only[frzE,hn,cond_true]
     rw[e];simp only[cond_true]
     rw[frcLP_eq]
     cases hk:nokeys (frzL K h xs)with
     |true=>simp only[cond_true,Bool.not_true];rw[heapC_eq K h Ks]
     |false=>simp only[cond_false,Bool.not_false];rw[heapC_eq K h Ks]
   |dead=>dsimp only[Option.map_some];rw[heapC_eq K h Ks];rfl
section
variable {P:Program} {K0:List Nat} {F:Fr K0} {m:Nat} {Q:Exit→St→Prop} {st:St} {c:Code}
def rndQ (Q:Exit→St→Prop) (I:St→Prop):Exit→St→Prop
 | .normal,s=>I s
 |e,s=>Q e s
theorem sim_cntP (N:Nat) (K Ks ts ds:List Nat) (hK:K0.all (K.contains ·)=true) (I:Nat→List (Nat×AV)→List (Nat×Ent)→St→Prop)
  (h:slotsC K (lookE st.h) st.tm ts fun T=>heapC K (lookE st.h) Ks fun U=>I 0 T U (restr K ds st)∧(∀i s,i<N→I i T U s→Sim P F m c s (rndQ Q fun s=>I (i+1) T U (restr K ds s)))∧
   ∀s,I N T U s→Sim P F m c s (rndQ Q fun _=>False)):Sim P F m (.loop c) st Q:=by
 rw[slotsC_eq,heapC_eq]at h
 generalize (ts.map _)=T at h
 generalize (Ks.filterMap _)=U at h
 obtain⟨h0,h1,h2⟩:=h
 refine sim_loop_r (fun n s=>∃i,n+i=N∧I i T U s) N K ds hK ⟨0,rfl,h0⟩ fun n s ⟨i,hi,hs⟩=>?_
 by_cases hlt:i<N
 ·refine(h1 i s hlt hs).mono fun e s' hq=>?_
  cases e with
  |normal=>exact⟨n-1,by omega,i+1,by omega,hq⟩
  |_=>exact hq
 ·obtain rfl:i=N:=by omega
  refine(h2 s hs).mono fun e s' hq=>?_
  cases e with
  |normal=>exact hq.elim
  |_=>exact hq
theorem sim_cnt (N:Nat) (K Ks ts ds:List Nat) (hK:K0.all (K.contains ·)=true) (S:Nat→List (Nat×AV)→List (Nat×Ent)→St)
  (h:slotsC K (lookE st.h) st.tm ts fun T=>heapC K (lookE st.h) Ks fun U=>restr K ds st=S 0 T U∧(∀i,i<N→Sim P F m c (S i T U) (rndQ Q fun s=>restr K ds s=S (i+1) T U))∧
   Sim P F m c (S N T U) (rndQ Q fun _=>False)):Sim P F m (.loop c) st Q:=by
 refine sim_cntP N K Ks ts ds hK (fun i T U s=>s=S i T U) ?_
 rw[slotsC_eq,heapC_eq]at h⊢
 obtain⟨h0,h1,h2⟩:=h
 exact⟨h0,fun i s hi hs=>hs▸h1 i hi,fun s hs=>hs▸h2⟩
theorem sim_whl (N:Nat) (K Ks ts ds:List Nat) (hK:K0.all (K.contains ·)=true) (I:Nat→List (Nat×AV)→List (Nat×Ent)→St→Prop)
  (h:slotsC K (lookE st.h) st.tm ts fun T=>heapC K (lookE st.h) Ks fun U=>I N T U (restr K ds st)∧∀n s,I n T U s→Sim P F m c s (rndQ Q fun s=>∃n',n'<n∧I n' T U (restr K ds s))):Sim P F m (.loop c) st Q:=by
 rw[slotsC_eq,heapC_eq]at h
 generalize (ts.map _)=T at h
 generalize (Ks.filterMap _)=U at h
 obtain⟨h0,h1⟩:=h
 refine sim_loop_r (fun n s=>I n T U s) N K ds hK h0 fun n s hs=>(h1 n s hs).mono fun e s' hq=>?_
 cases e with
 |normal=>exact hq
 |_=>exact hq
theorem sim_rng {α:Type} (l:List α) (K Ks ts ds:List Nat) (hK:K0.all (K.contains ·)=true) (S:Nat→List α→List (Nat×AV)→List (Nat×Ent)→St)
  (h:slotsC K (lookE st.h) st.tm ts fun T=>heapC K (lookE st.h) Ks fun U=>restr K ds st=S 0 [] T U∧
   (∀i pre x post,l=pre++x::post→pre.length=i→Sim P F m c (S i pre T U) (rndQ Q fun s=>restr K ds s=S (i+1) (pre++[x]) T U))∧
   Sim P F m c (S l.length l T U) (rndQ Q fun _=>False)):Sim P F m (.loop c) st Q:=by
 refine sim_cnt l.length K Ks ts ds hK (fun i T U=>S i (l.take i) T U) ?_
 rw[slotsC_eq,heapC_eq]at h⊢
 obtain⟨h0,h1,h2⟩:=h
 refine⟨by simpa using h0,fun i hi=>?_,by simpa using h2⟩
 have:=h1 i (l.take i) l[i] (l.drop (i+1)) (by rw[←List.drop_eq_getElem_cons hi,List.take_append_drop]) (by simp;omega)
 rw[List.take_append_getElem hi]at this
 exact this
theorem sim_rngP {α:Type} (l:List α) (K Ks ts ds:List Nat) (hK:K0.all (K.contains ·)=true) (I:Nat→List α→List (Nat×AV)→List (Nat×Ent)→St→Prop)
  (h:slotsC K (lookE st.h) st.tm ts fun T=>heapC K (lookE st.h) Ks fun U=>I 0 [] T U (restr K ds st)∧
   (∀i pre x post s,l=pre++x::post→pre.length=i→I i pre T U s→Sim P F m c s (rndQ Q fun s=>I (i+1) (pre++[x]) T U (restr K ds s)))∧
   ∀s,I l.length l T U s→Sim P F m c s (rndQ Q fun _=>False)):Sim P F m (.loop c) st Q:=by
 refine sim_cntP l.length K Ks ts ds hK (fun i T U s=>I i (l.take i) T U s) ?_
 rw[slotsC_eq,heapC_eq]at h⊢
 obtain⟨h0,h1,h2⟩:=h
 refine⟨by simpa using h0,fun i s hi hs=>?_,fun s hs=>h2 s (by simpa using hs)⟩
 have:=h1 i (l.take i) l[i] (l.drop (i+1)) s (by rw[←List.drop_eq_getElem_cons hi,List.take_append_drop]) (by simp;omega) hs
 rw[List.take_append_getElem hi]at this
 exact this
end
section
variable {α:Type} {l pre post:List α} {x:α} {i:Nat}
theorem rng_lt (h:l=pre++x::post) (hi:pre.length=i):i<l.length:=by subst h;simp;omega
theorem rng_at {β:Type} (f:α→β) (h:l=pre++x::post) (hi:pre.length=i):(l.map f)[i]? =some (f x):=by subst h;subst hi;simp
theorem rng_mem (h:l=pre++x::post):x∈l:=by subst h;simp
theorem map_len {β:Type} (f:α→β) (l:List α):(l.map f).length=l.length:=by simp
theorem map_hd {n:Nat} (f:α→AV) (l:List α) (h:∀x,(f x).cells.length=n):∀y,(l.map f)[0]? =some y→y.cells.length=n:=fun y hy=>by
 rw[List.getElem?_map,Option.map_eq_some_iff]at hy
 obtain⟨x,_,rfl⟩:=hy
 exact h x
end
end
end Av
end Go.Proofs.YtaikgchmpieooaaGreat
