/- Part 20: contracts of the functions, and what they rest upon. -/
import Derived.Test.YtaikgchmpieooaaGreatP19
import Derived.LoopNIn
namespace Go.Proofs.YtaikgchmpieooaaGreat
namespace Av
set_option linter.unusedSimpArgs false
set_option linter.unusedVariables false
section
variable {P:Program} {K0:List Nat} {F:Fr K0} {m:Nat} {ops:Array Oper} {rest:List Oper} {fs:List FP} {tm:List (Nat×AV)} {h:List (Nat×Ent)}
theorem restrC {st:St} {K ts:List Nat} {k:List (Nat×AV)→List (Nat×Ent)→Prop} (hk:slotsC K (lookE st.h) st.tm ts fun T=>heapC K (lookE st.h) K fun U=>k T U):k (restr K ts st).tm (restr K ts st).h:=by
 rw[slotsC_eq,heapC_eq]at hk
 exact hk
theorem x_restr {Q:List FP→St→Prop} (K ts:List Nat) (hK:K0.all (K.contains ·)=true) (h1:slotsC K (lookE h) tm ts fun T=>heapC K (lookE h) K fun U=>OpsX P F m ops false rest ⟨T,U⟩ fs Q):OpsX P F m ops false rest ⟨tm,h⟩ fs Q:=
 ⟨fun a w R=>(restrC (st:=⟨tm,h⟩) (k:=fun T U=>OpsX P F m ops false rest ⟨T,U⟩ fs Q) h1).run a w (RelS.restr R K ts hK)⟩
theorem sim_restrC {st:St} {c:Code} {Q:Exit→St→Prop} (K ts:List Nat) (hK:K0.all (K.contains ·)=true) (h1:slotsC K (lookE st.h) st.tm ts fun T=>heapC K (lookE st.h) K fun U=>Sim P F m c ⟨T,U⟩ Q):Sim P F m c st Q:=
 sim_restr K ts hK rfl (restrC (k:=fun T U=>Sim P F m c ⟨T,U⟩ Q) h1)
structure Shut (p:Prop):Prop where
 h:p
def roundsS (P:Program) (F:Fr K0) (m:Nat) (c:Code) (Q:Exit→St→Prop) (K ts:List Nat):Nat→St→Prop
 |0,_=>False
 |n+1,st=>Sim P F m c (restr K ts st) (rndQ Q fun s=>Shut (roundsS P F m c Q K ts n s))
theorem sim_rounds {st:St} {c:Code} {Q:Exit→St→Prop} (n:Nat) (K ts:List Nat) (hK:K0.all (K.contains ·)=true) (h1:Shut (roundsS P F m c Q K ts n st)):Sim P F m (.loop c) st Q:=⟨fun a w R=>by
 refine wpIn_loop_rounds n ?_
 induction n generalizing st a w with
 |zero=>exact h1.h.elim
 |succ n ih=>
  refine Code.wpIn_mono (fun e a' w' ⟨s,q1,q2⟩=>?_) (h1.h.run a w (RelS.restr R K ts hK))
  cases e with
  |normal=>exact ih q1 a' w' q2
  |_=>exact⟨s,q1,q2⟩⟩
theorem rnd_next {st st0:St} {c:Code} {Q:Exit→St→Prop} {n:Nat} {K ts:List Nat} (he:restr K ts st=st0) (h1:Sim P F m c st0 (rndQ Q fun s=>Shut (roundsS P F m c Q K ts n s))):Shut (roundsS P F m c Q K ts (n+1) st):=by
 subst he;exact⟨h1⟩
theorem setL_whole {α:Type} {cs vs:List α} (hl:vs.length=cs.length):setL cs 0 vs=vs:=by
 apply List.ext_getElem?
 intro j
 rw[setL_at _ _ _ _ (by omega)]
 by_cases hj:j<vs.length
 ·rw[if_pos ⟨Nat.zero_le _,by omega⟩];rfl
 ·rw[if_neg (fun h=>hj (by omega)),List.getElem?_eq_none (by omega),List.getElem?_eq_none (by omega)]
theorem x_stoW {TT:List TI} {dr:Bool} {Q:List FP→St→Prop} {ty:Nat} {pos:String} {after:Array Edge} (hP:TOK P TT) {T k:Nat} {p x:Operand} {ti:TI} {cs vs:List AV} (hp:opv (look tm) p= .ptr k 0 0) (hk0:lookE h k=some (.box cs)) (hx:opv (look tm) x= .agg vs) (hT:TT[T]? =some ti) (hs:Nat.beq vs.length ti.size=true) (hl:Nat.beq vs.length cs.length=true)
  (hk:OpsX P F m ops dr rest ⟨tm,(k,.box vs)::h⟩ (⟨true,[k],[k]⟩::fs) Q):OpsX P F m ops dr (⟨none,.store T p x,ty,pos,after,none⟩::rest) ⟨tm,h⟩ fs Q:=by
 have e1:=Nat.eq_of_beq_eq_true hs
 have e2:=Nat.eq_of_beq_eq_true hl
 refine x_autos (v:= .bot) (k:=k) (e:= .box vs) (r:=[k]) (nw:=[]) hP ?_ rfl rfl hk
 simp only[exec,hp,hT,hk0,hx,frc,AV.ok,AV.cells,frcL_eq,setL_whole e2]
 rw[show(true&&(Nat.beq vs.length ti.size&&Nat.ble (0+ti.size) cs.length))=true by
  rw[hs,Nat.ble_eq_true_of_le (by omega)];rfl]
 rfl
end
end Av
end Go.Proofs.YtaikgchmpieooaaGreat
