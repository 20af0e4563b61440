/- Part 4: contracts of the functions, and what they rest upon. -/
import Derived.Test.YtaikgchmpieooaaGreatP03
namespace Go.Proofs.YtaikgchmpieooaaGreat
namespace Av
set_option linter.unusedSimpArgs false
set_option linter.unusedVariables false
section ops
variable {P:Program} {TT:List TI} {st:St} (hP:TOK P TT)
theorem field_of {P:Program} {TT:List TI} (hP:TOK P TT) {T f o ft:Nat} {ti:TI} {fs:List (Nat×Nat)} (hT:TT[T]? =some ti) (hd:ti.d= .str fs) (hf:fs[f]? =some (o,ft)) (w:World):
  ∃(fields:Array Field) (fd:Field),(underlying T).run P w= .ok (.struct fields) w∧fields[f]? =some fd∧fd.offset=o∧fd.type=ft:=by
 obtain⟨u,hu,hd'⟩:=run_under (hP _ _ hT) w
 obtain⟨fields,rfl,hm⟩:=td_str (hd'.trans hd)
 rw[←hm]at hf
 simp only[List.getElem?_map,Option.map_eq_some_iff,Prod.mk.injEq]at hf
 obtain⟨fd,h1,h2,h3⟩:=hf
 exact⟨fields,fd,hu,by simpa using h1,h2,h3⟩
theorem run_fieldAt {P:Program} {TT:List TI} (hP:TOK P TT) {T f o ft:Nat} {ti tf:TI} {fs:List (Nat×Nat)} (hT:TT[T]? =some ti) (hd:ti.d= .str fs) (hf:fs[f]? =some (o,ft)) (hft:TT[ft]? =some tf) (hz:Nat.ble 1 tf.size=true) (w:World) (b q:Nat):
  (Instr.fieldAt T (.pointer (some ⟨b,q,none⟩)) f).run P w= .ok (.pointer (some ⟨b,q+o,none⟩)) w:=by
 obtain⟨fields,fd,h1,h2,h3,h4⟩:=field_of hP hT hd hf w
 have hs:=run_size (hP _ _ hft) w
 have hz:=Nat.le_of_ble_eq_true hz
 have hz':¬tf.size=0:=by omega
 have hadd:(⟨b,q,none⟩:Addr).add o=⟨b,q+o,none⟩:=by unfold Addr.add;split<;>simp_all
 simp[Instr.fieldAt,h1,h2,Instr.sureAddr,fieldPlace,h3,h4,hs,hz',hadd]
theorem add_at (b q n:Nat):(⟨b,q,none⟩:Addr).add n=⟨b,q+n,none⟩:=by unfold Addr.add;split<;>simp_all
include hP in
theorem stp_fieldAddr_box {T f k off o ft:Nat} {x:Operand} {ti tf:TI} {fs:List (Nat×Nat)} {cs:List AV} (hx:opv (look st.tm) x= .ptr k 0 off) (hk:lookE st.h k=some (.box cs)) (hT:TT[T]? =some ti) (hd:ti.d= .str fs) (hf:fs[f]? =some (o,ft))
  (hft:TT[ft]? =some tf) (hz:Nat.ble 1 tf.size=true):Stp P st (.fieldAddr T x f) (.ptr k 0 (off+o)) [] [k] []:=
 stp_val fun oo X tm h w β a ho hg hr HH Ht=>by
  obtain⟨dst,op',type,pos,after,guard⟩:=oo
  dsimp only at ho;subst ho
  have h1:=arg Ht hg (x:=x) (by simp[Op.operands]) hx
  have hk':=(hr k (by simp)).trans hk
  have hfa:=fun b=>run_fieldAt hP hT hd hf hft hz w b off
  generalize he:a.eval x=cx at h1
  cases h1 with
  |fz _ _ hf=>cases hf
  |dptr _ _ _ _ hd _=>rw[hk']at hd;cases hd
  |parr _ _ _ _ _ _ _ _ hd _ _ _=>rw[hk']at hd;cases hd
  |pbox _ _ cs' b n hk'' hb=>exact⟨_,by simp[execOp,he,hfa],.pbox k _ cs' b n hk'' hb⟩
include hP in
theorem stp_fieldAddr_arr {T f k i off o ft sz:Nat} {x:Operand} {ti tf:TI} {fs:List (Nat×Nat)} {xs:List AV} {sl:Fl} (hx:opv (look st.tm) x= .ptr k i off) (hk:lookE st.h k=some (.arr sz xs sl)) (hT:TT[T]? =some ti) (hd:ti.d= .str fs) (hf:fs[f]? =some (o,ft))
  (hft:TT[ft]? =some tf) (hz:Nat.ble 1 tf.size=true) (hle:Nat.blt (off+o) sz=true):Stp P st (.fieldAddr T x f) (.ptr k i (off+o)) [] [k] []:=
 stp_val fun oo X tm h w β a ho hg hr HH Ht=>by
  obtain⟨dst,op',type,pos,after,guard⟩:=oo
  dsimp only at ho;subst ho
  have h1:=arg Ht hg (x:=x) (by simp[Op.operands]) hx
  have hk':=(hr k (by simp)).trans hk
  have hfa:=fun b q=>run_fieldAt hP hT hd hf hft hz w b q
  have hle:off+o<sz:=Nat.le_of_ble_eq_true hle
  generalize he:a.eval x=cx at h1
  cases h1 with
  |fz _ _ hf=>cases hf
  |dptr _ _ _ _ hd _=>rw[hk']at hd;cases hd
  |pbox _ _ _ _ _ hd _=>rw[hk']at hd;cases hd
  |parr _ _ _ sz' xs' st' b n hk'' hb hi ho=>
   have h2:=hk''
   rw[hk']at h2
   cases h2
   exact⟨_,by simp[execOp,he,hfa];rfl,by rw[Nat.add_assoc];exact .parr k i (off+o) sz xs sl b n hk'' hb hi hle⟩
include hP in
theorem stp_fieldAddr_fp {T f i off o ft:Nat} {x:Operand} {ti tf:TI} {fs:List (Nat×Nat)} {xs:List AV} {y:AV} (hx:opv (look st.tm) x= .fp xs i off) (hy:xs[i]? =some y) (hT:TT[T]? =some ti) (hd:ti.d= .str fs) (hf:fs[f]? =some (o,ft))
  (hft:TT[ft]? =some tf) (hz:Nat.ble 1 tf.size=true) (hle:Nat.blt (off+o) y.cells.length=true):Stp P st (.fieldAddr T x f) (.fp xs i (off+o)) [] [] []:=
 stp_val fun oo X tm h w β a ho hg hr HH Ht=>by
  obtain⟨dst,op',type,pos,after,guard⟩:=oo
  dsimp only at ho;subst ho
  have h1:=arg Ht hg (x:=x) (by simp[Op.operands]) hx
  have hfa:=fun b q=>run_fieldAt hP hT hd hf hft hz w b q
  have hle:off+o<y.cells.length:=Nat.le_of_ble_eq_true hle
  generalize he:a.eval x=cx at h1
  cases h1 with
  | fz _ _ hf=>
   cases hf with
   |fp _ b q sz _ _ f hL hi ho hh=>
    have hsz:=hL.wide i y hy
    exact⟨_,by simp[execOp,he,hfa];rfl,.fz _ _ (by rw[Nat.add_assoc];exact .fp xs b q sz i (off+o) f hL hi (by omega) hh)⟩
include hP in
theorem run_indexAt {T e:Nat} {ti te:TI} (hT:TT[T]? =some ti) (hd:ti.d= .slice e) (he:TT[e]? =some te) (w:World) (b q len cap:Nat) (k:IntKind) (i:Int) (h0:0≤i) (hi:i<len):
  (Instr.indexAt T (.slice (some ⟨b,q,none⟩) len cap) (.int k i)).run P w= .ok (.pointer (some ⟨b,q+i.toNat*te.size,none⟩)) w:=by
 obtain⟨u,hu,hd'⟩:=run_under (hP _ _ hT) w
 obtain rfl:=td_slice (hd'.trans hd)
 have hs:=run_size (hP _ _ he) w
 simp[Instr.indexAt,asIntOf,hu,h0,hi,hs,add_at]
include hP in
theorem stp_indexAddr_sl {T e:Nat} {x ix:Operand} {ti te:TI} {nn:Bool} {xs:List AV} {y:AV} {k:IntKind} {i:Int} (hx:opv (look st.tm) x= .sl nn xs) (hi:opv (look st.tm) ix= .s (.int k i)) (hT:TT[T]? =some ti) (hd:ti.d= .slice e) (he:TT[e]? =some te)
  (h0:0≤i) (hy:xs[i.toNat]? =some y) (hs:Nat.beq y.cells.length te.size=true) (hz:Nat.ble 1 te.size=true):Stp P st (.indexAddr T x ix) (.fp xs i.toNat 0) [] [] []:=
 stp_val fun oo X tm h w β a ho hg hr HH Ht=>by
  obtain⟨dst,op',type,pos,after,guard⟩:=oo
  dsimp only at ho;subst ho
  have h1:=arg Ht hg (x:=x) (by simp[Op.operands]) hx
  have h2:=arg_s Ht hg (x:=ix) (by simp[Op.operands]) hi
  have hs:=Nat.eq_of_beq_eq_true hs
  have hz:=Nat.le_of_ble_eq_true hz
  have hlt:i.toNat<xs.length:=(List.getElem?_eq_some_iff.1 hy).1
  generalize he':a.eval x=cx at h1
  cases h1 with
  | fz _ _ hf=>
   cases hf with
   |nil a cap=>simp at hlt
   |nil1 a cap=>simp at hlt
   |sl _ _ b o sz cap f hne hL hc hh=>
    have hsz:=hL.wide _ y hy
    refine⟨_,by simp only[execOp,he',h2,Sem.run_bind,run_indexAt hP hT hd he w b o xs.length cap k i h0 (by omega),Result.andThen_ok,Sem.run_pure];rfl,.fz _ _ ?_⟩
    have:=RepF.fp xs b o sz i.toNat 0 f hL hlt (by omega) hh
    rwa [Nat.add_zero,←hsz,hs]at this
include hP in
theorem stp_indexAddr_ref {T e:Nat} {x ix:Operand} {ti te:TI} {key off len sz:Nat} {xs:List AV} {sl:Fl} {k:IntKind} {i:Int} (hx:opv (look st.tm) x= .ref key off len) (hi:opv (look st.tm) ix= .s (.int k i)) (hk:lookE st.h key=some (.arr sz xs sl)) (hT:TT[T]? =some ti) (hd:ti.d= .slice e) (he:TT[e]? =some te)
  (h0:0≤i) (hl:i<len) (hs:Nat.beq sz te.size=true):Stp P st (.indexAddr T x ix) (.ptr key (off+i.toNat) 0) [] [key] []:=
 stp_val fun oo X tm h w β a ho hg hr HH Ht=>by
  obtain⟨dst,op',type,pos,after,guard⟩:=oo
  dsimp only at ho;subst ho
  have h1:=arg Ht hg (x:=x) (by simp[Op.operands]) hx
  have h2:=arg_s Ht hg (x:=ix) (by simp[Op.operands]) hi
  have hk':=(hr key (by simp)).trans hk
  have hs:=Nat.eq_of_beq_eq_true hs
  have hp:=(HH.ent key _ hk').1
  generalize he':a.eval x=cx at h1
  cases h1 with
  |fz _ _ hf=>cases hf
  |dref _ _ _ _ hd _=>rw[hk']at hd;cases hd
  |ref0 _ _ _ _ _ _ _ _=>simp at hl;omega
  |ref _ _ _ sz' xs' st' b n cap hk'' hb hn hc hsz=>
   have h3:=hk''
   rw[hk']at h3
   cases h3
   refine⟨_,by simp only[execOp,he',h2,Sem.run_bind,run_indexAt hP hT hd he w b _ len cap k i h0 hl,Result.andThen_ok,Sem.run_pure];rfl,?_⟩
   have:=RepV.parr (w:=w) (D:=Dom X β) key (off+i.toNat) 0 sz xs sl b n hk'' hb (by omega) (by omega)
   rw[Nat.add_mul,Nat.add_zero]at this
   rw[←hs]
   exact this
include hP in
theorem stp_indexAddr_box {T e n:Nat} {x ix:Operand} {ti te:TI} {key off:Nat} {cs:List AV} {k:IntKind} {i:Int} (hx:opv (look st.tm) x= .ptr key 0 off) (hi:opv (look st.tm) ix= .s (.int k i)) (hk:lookE st.h key=some (.box cs)) (hT:TT[T]? =some ti) (hd:ti.d= .arr n e) (he:TT[e]? =some te)
  (h0:0≤i) (hl:i<n):Stp P st (.indexAddr T x ix) (.ptr key 0 (off+i.toNat*te.size)) [] [key] []:=
 stp_val fun oo X tm h w β a ho hg hr HH Ht=>by
  obtain⟨dst,op',type,pos,after,guard⟩:=oo
  dsimp only at ho;subst ho
  have h1:=arg Ht hg (x:=x) (by simp[Op.operands]) hx
  have h2:=arg_s Ht hg (x:=ix) (by simp[Op.operands]) hi
  have hk':=(hr key (by simp)).trans hk
  obtain⟨u,hu,hd'⟩:=run_under (hP _ _ hT) w
  obtain rfl:=td_arr (hd'.trans hd)
  have hs:=run_size (hP _ _ he) w
  generalize he':a.eval x=cx at h1
  cases h1 with
  |fz _ _ hf=>cases hf
  |dptr _ _ _ _ hd _=>rw[hk']at hd;cases hd
  |parr _ _ _ _ _ _ _ _ hd _ _ _=>rw[hk']at hd;cases hd
  |pbox _ _ cs' b q hk'' hb=>
   exact⟨.pointer (some ⟨b,off+i.toNat*te.size,none⟩),by simp[execOp,Instr.indexAt,asIntOf,hu,Instr.sureAddr,h0,hl,hs,add_at,he',h2],.pbox key _ cs' b q hk'' hb⟩
theorem part_rep {P:Program} {TT:List TI} (hP:TOK P TT) {T:Nat} {ti:TI} (hT:TT[T]? =some ti) {w:World} {D:Nat→Prop} {h:Heap} {β:Map} {cs:List AV} {c:Value} (hv:RepV w D h β (.agg cs) c) {off:Nat} {v:AV} (hl:ldv ti.d.agg ti.size cs off=some v):
  ∃(ca:Array Value) (u:Value),c= .agg ca∧(part T ca off).run P w= .ok u w∧RepV w D h β v u:=by
 obtain⟨h1,h2,h3⟩:=hv.cells rfl
 have ha:=run_agg (hP _ _ hT) w
 have hs:=run_size (hP _ _ hT) w
 obtain⟨ca,rfl⟩:∃ca,c= .agg ca:=by
  cases hv with
  |fz _ _ hf=>cases hf with|agg _ c=>exact⟨c,rfl⟩
  |agg _ c=>exact⟨c,rfl⟩
 simp only[Value.cells,AV.cells]at h1 h2 h3
 unfold ldv at hl
 cases hb:ti.d.agg with
 |false=>
  simp only[hb,cond_false]at hl
  have hlt:off<ca.size:=by rw[h1];exact(List.getElem?_eq_some_iff.1 hl).1
  exact⟨ca,ca.getD off undef,rfl,by simp only[part,Sem.run_bind,ha,hb,Result.andThen_ok,getD_eq ca off hlt,Bool.false_eq_true,if_false,Sem.run_pure],h3 _ _ hl⟩
 | true=>
  simp only[hb,cond_true]at hl
  cases hle:Nat.ble (off+ti.size) cs.length with
  |false=>simp[hle]at hl
  | true=>
   have hle':=Nat.le_of_ble_eq_true hle
   simp only[hle,cond_true,Option.some.injEq]at hl
   subst hl
   have hat:∀i,i<ti.size→(ca.extract off (off+ti.size)).getD i undef=ca.getD (off+i) undef:=fun i hi=>by
    apply getD_of
    rw[Array.getElem?_extract]
    rw[if_pos (by omega)]
    exact getD_eq ca _ (by omega)
   refine⟨ca,.agg (ca.extract off (off+ti.size)),rfl,by simp only[part,Sem.run_bind,ha,hb,Result.andThen_ok,if_true,hs,Sem.run_pure],.agg _ _ (by simp;omega) (fun i hi=>?_) fun i u hu=>?_⟩
   ·have hi':i<ti.size:=by simp at hi;omega
    rw[hat i hi']
    exact h2 _ (by omega)
   ·rw[List.getElem?_take]at hu
    split at hu
    ·rename_i hi
     rw[hat i hi]
     rw[List.getElem?_drop]at hu
     exact h3 _ _ hu
    ·cases hu
theorem stp_field (hP:TOK P TT) {T f o ft:Nat} {x:Operand} {ti tf:TI} {fs:List (Nat×Nat)} {cs:List AV} {v:AV} (hx:opv (look st.tm) x= .agg cs) (hT:TT[T]? =some ti) (hd:ti.d= .str fs) (hf:fs[f]? =some (o,ft))
  (hft:TT[ft]? =some tf) (hv:ldv tf.d.agg tf.size cs o=some v):Stp P st (.field T x f) v [] [] []:=
 stp_val fun oo X tm h w β a ho hg hr HH Ht=>by
  obtain⟨dst,op',type,pos,after,guard⟩:=oo
  dsimp only at ho;subst ho
  have h1:=arg Ht hg (x:=x) (by simp[Op.operands]) hx
  obtain⟨fields,fd,e1,e2,e3,e4⟩:=field_of hP hT hd hf w
  obtain⟨ca,u,hc,hr,hu⟩:=part_rep hP hft h1 hv
  exact⟨u,by simp[execOp,hc,Instr.field,e1,e2,asAgg,e3,e4,hr],hu⟩
theorem stp_nilCheck_box {x:Operand} {k off:Nat} {cs:List AV} (hx:opv (look st.tm) x= .ptr k 0 off) (hk:lookE st.h k=some (.box cs)):Stp P st (.nilCheck x) (.ptr k 0 off) [] [k] []:=
 stp_val fun oo X tm h w β a ho hg hr HH Ht=>by
  obtain⟨dst,op',type,pos,after,guard⟩:=oo
  dsimp only at ho;subst ho
  have h1:=arg Ht hg (x:=x) (by simp[Op.operands]) hx
  have hk':=(hr k (by simp)).trans hk
  obtain⟨b,hc,_,_⟩:=row_box HH hk' h1
  rw[hc]at h1
  exact⟨_,by simp[execOp,hc],h1⟩
theorem stp_nilCheck_arr {x:Operand} {k i off sz:Nat} {xs:List AV} {sl:Fl} {y:AV} (hx:opv (look st.tm) x= .ptr k i off) (hk:lookE st.h k=some (.arr sz xs sl)) (hy:xs[i]? =some y):Stp P st (.nilCheck x) (.ptr k i off) [] [k] []:=
 stp_val fun oo X tm h w β a ho hg hr HH Ht=>by
  obtain⟨dst,op',type,pos,after,guard⟩:=oo
  dsimp only at ho;subst ho
  have h1:=arg Ht hg (x:=x) (by simp[Op.operands]) hx
  have hk':=(hr k (by simp)).trans hk
  obtain⟨b,n,hc,_,_,_,_⟩:=row_arr HH hk' hy h1
  rw[hc]at h1
  exact⟨_,by simp[execOp,hc],h1⟩
theorem stp_len_sl (hP:TOK P TT) {T e:Nat} {x:Operand} {ti:TI} {nn:Bool} {xs:List AV} (hx:opv (look st.tm) x= .sl nn xs) (hT:TT[T]? =some ti) (hd:ti.d= .slice e):
  Stp P st (.call ⟨.builtin .len, #[x], #[T]⟩) (.s (.int .i64 xs.length)) [] [] []:=
 stp_val fun oo X tm h w β a ho hg hr HH Ht=>by
  obtain⟨dst,op',type,pos,after,guard⟩:=oo
  dsimp only at ho;subst ho
  have h1:=arg Ht hg (x:=x) (by simp[Op.operands,Call.operands]) hx
  obtain⟨u,hu,hd'⟩:=run_under (hP _ _ hT) w
  obtain rfl:=td_slice (hd'.trans hd)
  obtain⟨b,cap,hc⟩:∃b cap,a.eval x= .slice b xs.length cap:=by
   generalize a.eval x=cx at h1
   cases h1 with
   |fz _ _ hf=>cases hf<;>exact⟨_,_,rfl⟩
  exact⟨_,by simp[execOp,resolve,invoke,builtin,Builtin.len_,hc,hu,goInt],.fz _ _ (.s _)⟩
theorem stp_len_ref (hP:TOK P TT) {T e:Nat} {x:Operand} {ti:TI} {k off len sz:Nat} {xs:List AV} {sl:Fl} (hx:opv (look st.tm) x= .ref k off len) (hk:lookE st.h k=some (.arr sz xs sl)) (hT:TT[T]? =some ti) (hd:ti.d= .slice e):
  Stp P st (.call ⟨.builtin .len, #[x], #[T]⟩) (.s (.int .i64 len)) [] [k] []:=
 stp_val fun oo X tm h w β a ho hg hr HH Ht=>by
  obtain⟨dst,op',type,pos,after,guard⟩:=oo
  dsimp only at ho;subst ho
  have h1:=arg Ht hg (x:=x) (by simp[Op.operands,Call.operands]) hx
  have hk':=(hr k (by simp)).trans hk
  obtain⟨u,hu,hd'⟩:=run_under (hP _ _ hT) w
  obtain rfl:=td_slice (hd'.trans hd)
  obtain⟨b,cap,hc⟩:∃b cap,a.eval x= .slice b len cap:=by
   generalize a.eval x=cx at h1
   cases h1 with
   |fz _ _ hf=>cases hf
   |dref _ _ _ _ hd _=>rw[hk']at hd;cases hd
   |ref0 _ _ _ _ _ _ _ _=>exact⟨_,_,rfl⟩
   |ref _ _ _ _ _ _ _ _ _ _ _ _ _ _=>exact⟨_,_,rfl⟩
  exact⟨_,by simp[execOp,resolve,invoke,builtin,Builtin.len_,hc,hu,goInt],.fz _ _ (.s _)⟩
theorem stp_len_nil (hP:TOK P TT) {T e:Nat} {x:Operand} {ti:TI} {b:Option Addr} {n cap:Nat} (hx:opv (look st.tm) x= .s (.slice b n cap)) (hT:TT[T]? =some ti) (hd:ti.d= .slice e):
  Stp P st (.call ⟨.builtin .len, #[x], #[T]⟩) (.s (.int .i64 n)) [] [] []:=
 stp_val fun oo X tm h w β a ho hg hr HH Ht=>by
  obtain⟨dst,op',type,pos,after,guard⟩:=oo
  dsimp only at ho;subst ho
  have hc:=arg_s Ht hg (x:=x) (by simp[Op.operands,Call.operands]) hx
  obtain⟨u,hu,hd'⟩:=run_under (hP _ _ hT) w
  obtain rfl:=td_slice (hd'.trans hd)
  exact⟨_,by simp[execOp,resolve,invoke,builtin,Builtin.len_,hc,hu,goInt],.fz _ _ (.s _)⟩
def Bd (st:St) (o:Option Operand) (dflt n:Nat):Prop:=match o with
 |none=>n=dflt
 |some x=>∃k i,opv (look st.tm) x= .s (.int k i)∧i=(n:Int)
theorem run_bounds {P:Program} {st:St} {op:Op} {tm:Nat→AV} {a:Act} {w:World} {D:Nat→Prop} {h:Heap} {β:Map} (H:∀t,RepV w D h β (tm t) (a.eval (.tmp t))) (hg:∀t,t∈tmpsOf op→tm t=look st.tm t) {lo hi:Option Operand}
  (h1:∀x,lo=some x→x∈op.operands) (h2:∀x,hi=some x→x∈op.operands) {len cap l r:Nat} (hl:Bd st lo 0 l) (hr:Bd st hi len r) (hlr:l≤r) (hrc:r≤cap) (b:Bool):
  (Instr.sliceBounds b len cap (lo.map a.eval) (hi.map a.eval) none).run P w= .ok (l,r,cap) w:=by
 unfold Instr.sliceBounds
 cases lo with
 | none=>
  simp only[Bd]at hl
  subst hl
  cases hi with
  |none=>simp only[Bd]at hr;subst hr;simp
  |some y=>
   obtain⟨k,i,e1,rfl⟩:=hr
   have e2:=arg_s H hg (h2 y rfl) e1
   simp[Instr.sliceBound,e2,asIntOf,hrc]
 | some x=>
  obtain⟨k,i,e1,rfl⟩:=hl
  have e2:=arg_s H hg (h1 x rfl) e1
  cases hi with
  |none=>simp only[Bd]at hr;subst hr;simp[Instr.sliceBound,e2,asIntOf,hlr]
  |some y=>
   obtain⟨k',i',e3,rfl⟩:=hr
   have e4:=arg_s H hg (h2 y rfl) e3
   simp[Instr.sliceBound,e2,e4,asIntOf,hlr,hrc]
theorem stp_slice_sl (hP:TOK P TT) {T e:Nat} {x:Operand} {lo hi:Option Operand} {ti te:TI} {nn:Bool} {xs:List AV} {l r:Nat} (hx:opv (look st.tm) x= .sl nn xs) (hT:TT[T]? =some ti) (hd:ti.d= .slice e) (he:TT[e]? =some te)
  (hl:Bd st lo 0 l) (hr:Bd st hi xs.length r) (hlr:l≤r) (hrx:r≤xs.length) (hsz:∀y,xs[0]? =some y→y.cells.length=te.size):Stp P st (.slice T x lo hi none) (.sl nn ((xs.drop l).take (r-l))) [] [] []:=
 stp_val fun oo X tm h w β a ho hg _ HH Ht=>by
  obtain⟨dst,op',type,pos,after,guard⟩:=oo
  dsimp only at ho;subst ho
  have h1:=arg Ht hg (x:=x) (by simp[Op.operands]) hx
  obtain⟨u,hu,hd'⟩:=run_under (hP _ _ hT) w
  obtain rfl:=td_slice (hd'.trans hd)
  have hs:=run_size (hP _ _ he) w
  obtain⟨b,cap,hc,hcap⟩:∃b cap,a.eval x= .slice b xs.length cap∧xs.length≤cap:=by
   generalize a.eval x=cx at h1
   cases h1 with
   |fz _ _ hf=>
    cases hf with
    |nil a cap=>exact⟨_,_,rfl,by simp⟩
    |nil1 a cap=>exact⟨_,_,rfl,by simp⟩
    |sl _ _ b o sz cap f hne hL hc hh=>exact⟨_,_,rfl,hc⟩
  have hb:=run_bounds (P:=P) Ht hg (lo:=lo) (hi:=hi) (fun y hy=>by subst hy;simp[Op.operands]) (fun y hy=>by subst hy;simp[Op.operands]) hl hr hlr (Nat.le_trans hrx hcap) true
  have hrun:(execOp a.eval ⟨dst,.slice T x lo hi none,type,pos,after,guard⟩).run P w= .ok (.value (.slice (if cap=l then b else b.map (·.add (l*te.size))) (r-l) (cap-l))) w:=by
   simp only[execOp,Instr.sliceAt,Instr.slice,Sem.run_bind,hu,Result.andThen_ok,hc,Option.map_none,hb,hs,Sem.run_pure]
  refine⟨_,hrun,.fz _ _ ?_⟩
  rw[hc]at h1
  have hlen:((xs.drop l).take (r-l)).length=r-l:=by simp;omega
  by_cases hz:r-l=0
  ·have hnil:(xs.drop l).take (r-l)=[]:=List.eq_nil_of_length_eq_zero (by omega)
   rw[hnil,hz]
   cases nn with
   |false=>exact .nil _ _
   | true=>
    cases h1 with
    |fz _ _ hf=>
     cases hf with
     |nil1 a cap=>split<;>exact .nil1 _ _
     |sl _ _ b o sz cap f hne hL hc hh=>split<;>exact .nil1 _ _
  ·cases h1 with
   | fz _ _ hf=>
    cases hf with
    |nil a cap=>simp at hrx;omega
    |nil1 a cap=>simp at hrx;omega
    | sl _ _ b o sz cap f hne hL hc hh=>
     have hne':¬cap=l:=by omega
     have hsz':te.size=sz:=by
      obtain⟨y,hy⟩:∃y,xs[0]? =some y:=⟨xs[0]'(by omega),by simp⟩
      rw[←hsz y hy,hL.wide 0 y hy]
     have hat:∀(i:Nat) y,((xs.drop l).take (r-l))[i]? =some y→xs[l+i]? =some y:=fun i y hy=>by
      rw[List.getElem?_take]at hy
      split at hy
      ·rwa [List.getElem?_drop]at hy
      ·cases hy
     rw[if_neg hne',Option.map_some,add_at,hsz']
     have:=RepF.sl (w:=w) (D:=Dom X β) nn ((xs.drop l).take (r-l)) b (o+l*sz) sz (cap-l) (fun i j=>f (l+i) j) (fun h0=>hz (by rw[←hlen,h0];rfl))
      ⟨hL.lt,hL.nd,hL.pos,by rw[hlen];exact Nat.le_trans (Nat.sub_le _ _) (Nat.le_trans hrx hL.max),fun i y hy=>hL.wide _ y (hat i y hy),fun i j hi hj=>by
       rw[hlen]at hi
       have:=hL.cell (l+i) j (by omega) hj
       rwa [Nat.add_mul,←Nat.add_assoc]at this,fun i j hi hj=>hL.one _ _ (by rw[hlen]at hi;omega) hj⟩ (by omega) (fun i y j v hy hv=>hh _ y j v (hat i y hy) hv)
     rwa [hlen]at this
theorem stp_slice_ref (hP:TOK P TT) {T e:Nat} {x:Operand} {lo hi:Option Operand} {ti te:TI} {k off len sz:Nat} {xs:List AV} {sl:Fl} {l r:Nat} (hx:opv (look st.tm) x= .ref k off len) (hk:lookE st.h k=some (.arr sz xs sl)) (hT:TT[T]? =some ti) (hd:ti.d= .slice e) (he:TT[e]? =some te)
  (hl:Bd st lo 0 l) (hr:Bd st hi len r) (hlr:l≤r) (hrx:r≤len) (hsz:Nat.beq sz te.size=true):Stp P st (.slice T x lo hi none) (.ref k (off+l) (r-l)) [] [k] []:=
 stp_val fun oo X tm h w β a ho hg hr' HH Ht=>by
  obtain⟨dst,op',type,pos,after,guard⟩:=oo
  dsimp only at ho;subst ho
  have h1:=arg Ht hg (x:=x) (by simp[Op.operands]) hx
  have hk':=(hr' k (by simp)).trans hk
  have hsz:=Nat.eq_of_beq_eq_true hsz
  obtain⟨u,hu,hd'⟩:=run_under (hP _ _ hT) w
  obtain rfl:=td_slice (hd'.trans hd)
  have hs:=run_size (hP _ _ he) w
  have hE:=HH.ent k _ hk'
  generalize hcx:a.eval x=cx at h1
  have main:∀b cap,cx= .slice b len cap→len≤cap→(execOp a.eval ⟨dst,.slice T x lo hi none,type,pos,after,guard⟩).run P w= .ok (.value (.slice (if cap=l then b else b.map (·.add (l*te.size))) (r-l) (cap-l))) w:=by
   intro b cap hc hcap
   have hb:=run_bounds (P:=P) Ht hg (lo:=lo) (hi:=hi) (fun y hy=>by subst hy;simp[Op.operands]) (fun y hy=>by subst hy;simp[Op.operands]) hl hr hlr (Nat.le_trans hrx hcap) true
   simp only[execOp,Instr.sliceAt,Instr.slice,Sem.run_bind,hu,Result.andThen_ok,hcx,hc,Option.map_none,hb,hs,Sem.run_pure]
  cases h1 with
  |fz _ _ hf=>cases hf
  |dref _ _ _ _ hd _=>rw[hk']at hd;cases hd
  |ref0 _ _ sz' xs' st' b hk'' hn=>
   have hm:=main b 0 rfl (Nat.le_refl _)
   obtain rfl:r=0:=by omega
   obtain rfl:l=0:=by omega
   exact⟨_,hm,.ref0 k off sz' xs' st' _ hk'' hn⟩
  | ref _ _ _ sz' xs' st' b n cap hk'' hb hn hc hs'=>
   have hm:=main _ cap rfl hc
   have h3:=hk''
   rw[hk']at h3
   cases h3
   refine⟨_,hm,?_⟩
   obtain⟨_,_,_,_,g5,_⟩:=hE
   have hnx:n≤xs.length:=by
    cases hbk:β k with
    |nil=>rw[hbk]at hb;simp at hb
    |cons q rr=>
     obtain⟨b0,n0⟩:=q
     obtain⟨e1,_,e3⟩:=g5 b0 n0 rr hbk
     rw[hbk]at hb
     simp at hb
     rcases hb with⟨_,rfl⟩|hb
     ·omega
     ·exact Nat.le_of_lt (e3 b n hb)
   by_cases hcl:cap=l
   ·obtain rfl:r=l:=by omega
    rw[if_pos hcl,show r-r=0 by omega,show cap-r=0 by omega]
    exact .ref0 k _ sz xs sl _ hk'' (by omega)
   ·rw[if_neg hcl,Option.map_some,add_at,←hsz,←Nat.add_mul]
    exact .ref k (off+l) (r-l) sz xs sl b n (cap-l) hk'' hb (by omega) (by omega) (by rw[show off+l+(cap-l)=off+cap by omega];exact hs')
end ops
end Av
end Go.Proofs.YtaikgchmpieooaaGreat
