/- Part 5. -/
import Derived.Test.YtaglbcjljlkjcaaGreatW04
namespace Go.Proofs.YtaglbcjljlkjcaaGreat.Av
open Tryz
set_option linter.all false
set_option maxRecDepth 4000
set_option maxHeartbeats 2000000
open List renaming length->ln,range->pb,take->pi,getD->py
open Inhabited renaming default->dd
variable {r:AV}{h0 h1:List (Nat×xW)}{n:Nat}{A B C D E F G Y a b c d p q:Prop}{α:Type}
def Lp(a:A)(b:B)(c:C)(h:p=(A/\B/\C):=by conv=>lhs;whnf):p:=by(rw[h];exact⟨a,b,c⟩)
def Lq(b:B)(c:C)(h:p=(A/\B/\C):=by conv=>lhs;whnf)(a:A:=by rfl):p:=by(rw[h];exact⟨a,b,c⟩)
structure aV (q:Prop):Prop where
 h:q
structure Su (n:Nat) (K ts:List Nat):Prop where
def I2 (x:a) (y:b):a/\b:=⟨x,y⟩
def I4 (x:a) (y:b) (z:c) (u:d):a/\b/\c/\d:=⟨x,y,z,u⟩
def I5 {e:Prop} (x:a) (y:b) (z:c) (u:d) (v:e):a/\b/\c/\d/\e:=⟨x,y,z,u,v⟩
def I6 {e f:Prop} (x:a) (y:b) (z:c) (u:d) (v:e) (w:f):a/\b/\c/\d/\e/\f:=⟨x,y,z,u,v,w⟩
section
variable {P:Program} {K0:List Nat} {F:Fr K0} {m:Nat} {ops:Array Oper} {rest:List Oper} {Q:List FP->St->Prop} {dr:Bool} {fs:List FP} {ty t:Nat} {pos:String} {after:Array Edge} {st:St}
def L1 {u:List AV} (_:xO P n u h0 r h1) {z:Array Operand} {I:Array Nat} (hk:yN P F m ops dr (⟨some t,.call ⟨.value (.func n),z,I⟩,ty,pos,after,none⟩::rest) st fs Q):yN P F m ops dr (⟨some t,.call ⟨.value (.func n),z,I⟩,ty,pos,after,none⟩::rest) st fs Q:=hk
def Fc {K I:List Nat} (_:Su n K I) {u:Array Operand} {z:Array Nat} (hk:yN P F m ops dr (⟨some t,.call ⟨.value (.func n),u,z⟩,ty,pos,after,none⟩::rest) st fs Q):yN P F m ops dr (⟨some t,.call ⟨.value (.func n),u,z⟩,ty,pos,after,none⟩::rest) st fs Q:=hk
def MF {z:List (Nat×AV)} {h:List (Nat×xW)} {Q:List FP->St->Prop} {K u:List Nat} (_:Su n K u) (I:K0.all (K.contains ·)=true) (h1:jY K (zD h) z u λT=>jS K (zD h) K λU=>yN P F m ops false rest ⟨T,U⟩ fs Q):yN P F m ops false rest ⟨z,h⟩ fs Q:=vU K u I h1
end
def CC (k:q) (h:aV q->p:=by(intro gd;(((first|refine L1 zc ?_|refine Of ?_);first|refine wM (zL (zc) Z Z Z Z Z) Z ?_|refine uU (zL (zc) Z Z Z Z Z) Z Z Z ?_|refine aF (zL (zc) Z Z Z Z Z) Z Z Z ?_|refine wM (jK (zc) Z Z Z Z Z) Z ?_|refine uU (jK (zc) Z Z Z Z Z) Z Z Z ?_));exact gd.h)):p:=h ⟨k⟩
theorem PT (k:q) (h:aV q->p:=by(intro gd;(first|refine uL tok Z Z ?_|(refine OX ?_;first|refine K9 Z Z ?_|refine K6 Z Z Z Z ?_)|(refine wV ?_;first|refine wM (qh Z Z Z (by unfold Jk;omega)) Z ?_|refine wM (jh Z Z Z (by unfold Jk;omega)) Z ?_|refine wM (bt Z Z Z) Z ?_|refine wM (PG Z Z ⟨by omega,by omega⟩) Z ?_|refine wM (rt Z Z ⟨by omega,by omega⟩) Z ?_|refine wM (PH Z Z ⟨by omega,by omega⟩) Z ?_|refine wM (Zt Z Z (by assumption) (by omega)) Z ?_|refine wM (Yt Z Z (by omega)) Z ?_|refine wM (Xt Z Z) Z ?_|refine wM (Mn Z Z (by omega)) Z ?_|refine wM (Ln Z Z (by omega)) Z ?_|refine wM (YV (.inl ⟨rfl,rfl⟩) Z Z (by omega)) Z ?_|refine wM (YV (.inr ⟨rfl,rfl⟩) Z Z (by omega)) Z ?_|refine wM (JG tok Z Z Z Z (.inl ⟨rfl,rfl⟩)) Z ?_|refine wM (JG tok Z Z Z Z (.inr ⟨rfl,rfl⟩)) Z ?_|refine wM (Gb tok (.inl ⟨rfl,rfl⟩) Z Z Z) Z ?_|refine wM (xX tok (.inl ⟨rfl,rfl⟩) Z Z Z Z) Z ?_|refine wM (Pn Z Z) Z ?_|refine wM (aN Z Z) Z ?_|refine wM (On Z Z) Z ?_|refine wM (yd Z Z (by assumption)) Z ?_|refine wM (JZ Z Z) Z ?_|refine wM (xd Z Z (by assumption)) Z ?_|refine wM (IA Z Z) Z ?_)|(refine Vz ?_;first|refine wM (SO tok Z Z Z Z Z (by omega) XY Z Z) Z ?_|refine wM (SI tok Z Z Z Z Z Z (by omega) (by omega) Z) Z ?_|refine wM (UQ tok Z Z Z Z Z Z (by omega) (by omega)) Z ?_)|(refine ct ?_;first|refine wM (HG tok Z Z Z XY Z) Z ?_|refine wM (HF tok Z Z Z XY Z) Z ?_|refine wM (LS tok Z Z Z Z XY Z) Z ?_|refine wM (LR tok Z Z Z Z XY Z) Z ?_)|(refine Uz ?_;first|refine wM (UO tok Z Z Z Z Z Z Z Z) Z ?_|refine wM (SJ tok Z XY Z Z Z Z Z Z) Z ?_)|(refine yC ?_;first|refine vA tok Z Z Z Z Z Z Z (by first|(intro y u;cases u;rfl)|exact yM _ _ (λ_=>rfl)) Z Z Z (by first|omega|(simp;done)|(simp;omega)) Z ?_|refine jF tok Z Z Z Z Z Z Z Z Z Z Z (by first|(intro y u;cases u;rfl)|exact yM _ _ (λ_=>rfl)) (by first|omega|(simp;done)|(simp;omega)) Z ?_)|(refine Ik ?_;first|refine wM (Vt Z ⟨by omega,by omega⟩) Z ?_)|(refine ot ?_;first|refine wM (DV tok Z Z Z Z ⟨by omega,by omega⟩) Z ?_|refine wM (CK tok Z Z Z Z) Z ?_|refine wM (AO tok Z Z Z Z Z Z Z XY) Z ?_)|(refine gX ?_;first|refine GZ tok Z Z Z Z Z (by first|(intro y u;cases u;rfl)|exact yM _ _ (λ_=>rfl)|assumption|(simp;done)) (by omega) qA (by first|exact zDn.symm|rfl) Z ?_|refine V2 tok Z Z Z Z Z (by first|(intro y u;cases u;rfl)|exact yM _ _ (λ_=>rfl)|assumption|(simp;done)) (by omega) qA (by first|exact zD5.symm|rfl) Z ?_|refine Nu tok Z Z Z Z Z Z (by first|(intro y u;cases u;rfl)|exact yM _ _ (λ_=>rfl)|assumption|(simp;done)) (by omega) (by omega) (by first|omega|(simp;omega)) (by first|assumption|rfl) Z ?_));exact gd.h)):p:=h ⟨k⟩
def SB (k:q) (h:aV q->p:=by(intro gd;refine zG ?_;(first|(refine Vn ?_;refine wM (bK Z Z Z) Z ?_)|refine YU tok Z Z Z Z ?_|(refine dX ?_;first|refine S2 tok Z Z Z Z Z Z ?_|refine cO tok Z Z Z ?_|refine Un tok Z Z Z XY Z Z Z Z Z Z ?_|refine Cc tok Z Z Z XY Z Z Z Z Z Z Z Z ?_)|refine kP ?_|refine WR NA ?_);exact gd.h)):p:=h ⟨k⟩
def SC (k:q) (h:aV q->p:=by(intro gd;((first|(refine Fc kj ?_;refine MF kj Z ?_;(conv=>whnf);(try simp only[zBd,zAt]))|(refine Fc zf2 ?_;refine MF zf2 Z ?_;(conv=>whnf);(try simp only[zBd,zAt]))|(refine Fc zf3 ?_;refine MF zf3 Z ?_;(conv=>whnf);(try simp only[zBd,zAt]))|skip);first|(have zc:=ga;refine CC ?_;clear zc)|(have zc:=ge;refine CC ?_;clear zc)|(have zc:=gn;refine CC ?_;clear zc)|(have zc:=gt;refine CC ?_;clear zc)|(have zc:=io;refine CC ?_;clear zc)|(have zc:=la;refine CC ?_;clear zc)|(have zc:=ld;refine CC ?_;clear zc)|(have zc:=lf;refine CC ?_;clear zc)|(have zc:=lk;refine CC ?_;clear zc)|(have zc:=zc10;refine CC ?_;clear zc)|(have zc:=zc11;refine CC ?_;clear zc)|(have zc:=zc12;refine CC ?_;clear zc)|(have zc:=zc13;refine CC ?_;clear zc)|(have zc:=zc14;refine CC ?_;clear zc)|(have zc:=zc15;refine CC ?_;clear zc)|(have zc:=zc16;refine CC ?_;clear zc)|fail);exact gd.h)):p:=h ⟨k⟩
def WZ (k:q) (h:aV q->p:=by(intro gd;(repeat1' (first|(refine zG ?_;first|refine PT ?_|(refine xP ?_;refine SC ?_)|refine SB ?_)|refine xY ?_|refine xR ?_|refine xJ ?_|refine xQ ?_));exact gd.h)):p:=h ⟨k⟩
def WS (k:q) (h:aV q->p:=by(intro gd;(repeat1' (first|(refine zG ?_;first|refine PT ?_|(refine xP ?_;refine SC ?_)|refine SB ?_)));exact gd.h)):p:=h ⟨k⟩
def WV (k:q) (h:aV q->p:=by(intro gd;(repeat1' (first|(refine zG ?_;first|refine PT ?_|(refine xP ?_;refine SC ?_)|((fail_if_success refine yH ?_);refine SB ?_))));exact gd.h)):p:=h ⟨k⟩
def WY (k:q) (h:aV q->p:=by(intro gd;(repeat1' (first|(refine zG ?_;first|refine PT ?_|(refine xP ?_;refine SC ?_)|((fail_if_success refine yH ?_);refine SB ?_))|refine xY ?_|refine xR ?_|refine xJ ?_|refine xQ ?_));exact gd.h)):p:=h ⟨k⟩
def WT (k:q) (h:aV q->p:=by(intro gd;(repeat1' (first|(refine zG ?_;first|refine PT ?_|(refine xP ?_;refine SC ?_)|((fail_if_success refine dX ?_);refine SB ?_))|refine xY ?_|refine xR ?_|refine xJ ?_|refine xQ ?_));exact gd.h)):p:=h ⟨k⟩
def SG (k:q) (h:aV q->p:=by(intro gd;refine zG ?_;refine OX ?_;((refine UL Z Z (λlc=>?_) λlc=>?_)<;>(try simp only[uN,zAx,zA4,zB8,zCw,zDx,zEd,zBm,zB3,zFd,zFc,zEi]at lc));(all_goals (repeat revert lc));first|done|(exact gd.h;done)|(exact gd.h.1;exact gd.h.2;done)|(exact gd.h.1;exact gd.h.2.1;exact gd.h.2.2;done)|(exact gd.h.1;exact gd.h.2.1;exact gd.h.2.2.1;exact gd.h.2.2.2;done)|(exact gd.h.1;exact gd.h.2.1;exact gd.h.2.2.1;exact gd.h.2.2.2.1;exact gd.h.2.2.2.2;done)|(exact gd.h.1;exact gd.h.2.1;exact gd.h.2.2.1;exact gd.h.2.2.2.1;exact gd.h.2.2.2.2.1;exact gd.h.2.2.2.2.2;done))):p:=h ⟨k⟩
def SK (k:q) (h:aV q->p:=by(intro gd;((refine xZ Z (λlc=>?_) λlc=>?_)<;>(try simp only[uN,zAx,zA4,zB8,zCw,zDx,zEd,zBm,zB3,zFd,zFc,zEi]at lc));(all_goals (repeat revert lc));first|done|(exact gd.h;done)|(exact gd.h.1;exact gd.h.2;done)|(exact gd.h.1;exact gd.h.2.1;exact gd.h.2.2;done)|(exact gd.h.1;exact gd.h.2.1;exact gd.h.2.2.1;exact gd.h.2.2.2;done)|(exact gd.h.1;exact gd.h.2.1;exact gd.h.2.2.1;exact gd.h.2.2.2.1;exact gd.h.2.2.2.2;done)|(exact gd.h.1;exact gd.h.2.1;exact gd.h.2.2.1;exact gd.h.2.2.2.1;exact gd.h.2.2.2.2.1;exact gd.h.2.2.2.2.2;done))):p:=h ⟨k⟩
def SM (k:q) (h:aV q->p:=by(intro gd;((refine fP ?_;refine Ye tok Z Z Z Z Z Z Z Z Z Z Z Z Z (by omega) (by omega) Z Z Z ?_));exact gd.h)):p:=h ⟨k⟩
def SL (k:q) (h:aV q->p:=by(intro gd;(first|(refine yH ?_;refine vC tok Z Z ?_)|(refine yC ?_;refine kX tok Z Z Z Z Z Z (by first|(intro y u;cases u;rfl)|exact yM _ _ (λ_=>rfl)) Z Z Z (by first|omega|(simp;done)|(simp;omega)) Z ?_));exact gd.h)):p:=h ⟨k⟩
def SR (k:q) (h:aV q->p:=by(intro gd;(first|refine xY ?_|refine xR ?_|refine vZ Z ?_|refine yR Z ?_|refine yD Z ?_|refine xJ ?_|refine xL ?_|refine xQ ?_|refine xC ?_);exact gd.h)):p:=h ⟨k⟩
def SX (k:q) (h:aV q->p:=by(intro gd;(first|refine xY ?_|refine xR ?_|refine yR Z ?_|refine yD Z ?_|refine xJ ?_|refine xL ?_|refine xQ ?_);exact gd.h)):p:=h ⟨k⟩
def SN (k:q) (h:aV q->p:=by(intro gd;(first|refine xY ?_|refine xR ?_|refine vZ Z ?_|refine yR Z ?_|refine yD Z ?_|refine xJ ?_|refine xQ ?_|refine xC ?_);exact gd.h)):p:=h ⟨k⟩
def SQ (k:q) (h:aV q->p:=by(intro gd;(first|refine xY ?_|refine xR ?_|refine vZ Z ?_|refine xJ ?_|refine xL ?_|refine xQ ?_);exact gd.h)):p:=h ⟨k⟩
def SV (k:q) (h:aV q->p:=by(intro gd;(first|refine xY ?_|refine xR ?_|refine vZ Z ?_|refine yR Z ?_|refine yD Z ?_|refine xJ ?_|refine xL ?_|refine xQ ?_);exact gd.h)):p:=h ⟨k⟩
structure One (a:Prop):Prop where
 x:a
structure i7 (a b:Prop):Prop where
 x:a
 y:b
def xI (x:a):One a:=⟨x⟩
def yW (x:a) (y:b):i7 a b:=⟨x,y⟩
def YG (k:i7 a b) (h:a->b->p:=by(intro lp zy8;refine zG ?_;refine OX ?_;((refine UL Z Z (λlc=>?_) λlc=>?_)<;>(try simp only[uN,zAx,zA4,zB8,zCw,zDx,zEd,zBm,zB3,zFd,zFc,zEi]at lc));(all_goals (repeat revert lc));exact lp;exact zy8)):p:=h k.x k.y
def Bx (k:One a) (h:a->p:=by(intro lp;refine zG ?_;refine OX ?_;((refine UL Z Z (λlc=>?_) λlc=>?_)<;>(try simp only[uN,zAx,zA4,zB8,zCw,zDx,zEd,zBm,zB3,zFd,zFc,zEi]at lc));(all_goals (repeat revert lc));exact lp)):p:=h k.x
def YK (k:i7 a b) (h:a->b->p:=by(intro lp zy8;((refine xZ Z (λlc=>?_) λlc=>?_)<;>(try simp only[uN,zAx,zA4,zB8,zCw,zDx,zEd,zBm,zB3,zFd,zFc,zEi]at lc));(all_goals (repeat revert lc));exact lp;exact zy8)):p:=h k.x k.y
def Z7 (k:One a) (h:a->p:=by(intro lp;((refine xZ Z (λlc=>?_) λlc=>?_)<;>(try simp only[uN,zAx,zA4,zB8,zCw,zDx,zEd,zBm,zB3,zFd,zFc,zEi]at lc));(all_goals (repeat revert lc));exact lp)):p:=h k.x
def YG0 (k:i7 a b) (h:a->b->p:=by(intro lp zy8;refine zG ?_;refine OX ?_;refine UL Z Z (λlc=>?_) λlc=>?_;(all_goals (repeat revert lc));exact lp;exact zy8)):p:=h k.x k.y
def YK0 (k:i7 a b) (h:a->b->p:=by(intro lp zy8;refine xZ Z (λlc=>?_) λlc=>?_;(all_goals (repeat revert lc));exact lp;exact zy8)):p:=h k.x k.y
def uT (k:q) (h:aV q->p:=by(intro gd;(first|refine WZ ?_|refine YG ?_|refine Bx ?_|refine SR ?_|refine YK ?_|refine Z7 ?_);exact gd.h)):p:=h ⟨k⟩
def J1 (k:q) (h:aV q->p:=by(intro gd;(first|refine WZ ?_|refine YG ?_|refine Bx ?_|refine SX ?_);exact gd.h)):p:=h ⟨k⟩
def Zf (k:q) (h:aV q->p:=by(intro gd;(first|refine WZ ?_|refine YG ?_|refine Bx ?_|refine SN ?_|refine YK ?_|refine Z7 ?_);exact gd.h)):p:=h ⟨k⟩
def Yf (k:q) (h:aV q->p:=by(intro gd;(first|refine WZ ?_|refine YG ?_|refine Bx ?_|refine SQ ?_);exact gd.h)):p:=h ⟨k⟩
def f9 (k:q) (h:aV q->p:=by(intro gd;(first|refine WZ ?_|refine YG ?_|refine Bx ?_|refine SV ?_|refine YK ?_|refine Z7 ?_);exact gd.h)):p:=h ⟨k⟩
def jX (k:q) (h:aV q->p:=by(intro gd;(first|refine WY ?_|refine YG ?_|refine Bx ?_|refine SR ?_|refine YK ?_|refine Z7 ?_);exact gd.h)):p:=h ⟨k⟩
def WYX (k:q) (h:aV q->p:=by(intro gd;(first|refine WY ?_|refine YG ?_|refine Bx ?_|refine SX ?_);exact gd.h)):p:=h ⟨k⟩
def WTR (k:q) (h:aV q->p:=by(intro gd;(first|refine WT ?_|refine YG ?_|refine Bx ?_|refine SR ?_|refine YK ?_|refine Z7 ?_);exact gd.h)):p:=h ⟨k⟩
def aM (k:q) (h:aV q->p:=by(intro gd;(first|refine WZ ?_|refine YG0 ?_|refine SR ?_|refine YK0 ?_);exact gd.h)):p:=h ⟨k⟩
def WW (k:q) (h:aV q->p:=by(intro gd;(repeat' (first|refine WZ ?_|refine SG (I2 (λgv=>?_) λgv=>?_)|refine SG λgv=>?_|(refine zG ?_;refine SM ?_)|refine SR ?_|refine SK (I2 (λgv=>?_) λgv=>?_)|refine SK λgv=>?_|fail));(all_goals (repeat revert gv));first|done|(exact gd.h;done)|(exact gd.h.1;exact gd.h.2;done)|(exact gd.h.1;exact gd.h.2.1;exact gd.h.2.2;done)|(exact gd.h.1;exact gd.h.2.1;exact gd.h.2.2.1;exact gd.h.2.2.2;done)|(exact gd.h.1;exact gd.h.2.1;exact gd.h.2.2.1;exact gd.h.2.2.2.1;exact gd.h.2.2.2.2;done)|(exact gd.h.1;exact gd.h.2.1;exact gd.h.2.2.1;exact gd.h.2.2.2.1;exact gd.h.2.2.2.2.1;exact gd.h.2.2.2.2.2;done))):p:=h ⟨k⟩
def WL (k:q) (h:aV q->p:=by(intro gd;(repeat' (first|refine WY ?_|refine SG (I2 (λgv=>?_) λgv=>?_)|refine SG λgv=>?_|(refine zG ?_;first|refine SL ?_|refine SM ?_)|refine SB ?_|refine SR ?_|refine SK (I2 (λgv=>?_) λgv=>?_)|refine SK λgv=>?_|fail));(all_goals (repeat revert gv));first|done|(exact gd.h;done)|(exact gd.h.1;exact gd.h.2;done)|(exact gd.h.1;exact gd.h.2.1;exact gd.h.2.2;done)|(exact gd.h.1;exact gd.h.2.1;exact gd.h.2.2.1;exact gd.h.2.2.2;done)|(exact gd.h.1;exact gd.h.2.1;exact gd.h.2.2.1;exact gd.h.2.2.2.1;exact gd.h.2.2.2.2;done)|(exact gd.h.1;exact gd.h.2.1;exact gd.h.2.2.1;exact gd.h.2.2.2.1;exact gd.h.2.2.2.2.1;exact gd.h.2.2.2.2.2;done))):p:=h ⟨k⟩
def WD (k:q) (h:aV q->p:=by(intro gd;(repeat' (first|refine WZ ?_|refine SG (I2 (λgv=>?_) λgv=>?_)|refine SG λgv=>?_|(refine zG ?_;refine SM ?_)|refine SX ?_|fail));(all_goals (repeat revert gv));first|done|(exact gd.h;done)|(exact gd.h.1;exact gd.h.2;done)|(exact gd.h.1;exact gd.h.2.1;exact gd.h.2.2;done)|(exact gd.h.1;exact gd.h.2.1;exact gd.h.2.2.1;exact gd.h.2.2.2;done)|(exact gd.h.1;exact gd.h.2.1;exact gd.h.2.2.1;exact gd.h.2.2.2.1;exact gd.h.2.2.2.2;done)|(exact gd.h.1;exact gd.h.2.1;exact gd.h.2.2.1;exact gd.h.2.2.2.1;exact gd.h.2.2.2.2.1;exact gd.h.2.2.2.2.2;done))):p:=h ⟨k⟩
def eN {f:Nat} {fn:Func} {body:Code} {args:List AV} (O:prog.funcs[f]? =some fn) (u:bH prog f) (h:∀F:Fr (xB h0),F.ro=none/\F.it=false->uD prog F fn.ntmps body ⟨UE 0 args,h0⟩ (Fin TT fn.results.toList h0 r h1)) (hb:fn.body=some body:=by exact Z) (z:Nat.ble (ln args) fn.ntmps=true:=by exact Z) (M:vX h0=true:=by exact Z) (I:vX h1=true:=by exact Z) (L:Nat.ble fn.ntmps GS=true:=by rfl):xO prog f args h0 r h1:=WP tok O hb u z M I h L
def zI {TT:List TI} {u:List ResultVar} {st:St} {vs:List AV} (h:LQ TT st u=some vs:=by exact Z) (z:(xB h0).all (([]:List Nat).contains ·)=true:=by exact Z) (I:ZC (wT [] (zD st.h) (DS vs))=r:=by exact Z) (hh:wU [] (zD st.h)=h1:=by exact Z):Fin TT u h0 r h1 .ret st:=zH [] h z I hh
def nl{p:Prop}(h:p:=by(refine WL ?_;exact zI)):p:=h
def ly{p:Prop}(h:p:=by(refine WW ?_;exact zI)):p:=h
structure zT2 (A B:Prop):Prop where
  mk::(a1:A) (b1:B)
def xV (u:A) (z:B):zT2 A B:=⟨u,z⟩
def ze2 (z:zT2 A B) (h:A->B->p):p:=h z.a1 z.b1
structure zT3 (A B C:Prop):Prop where
  mk::(a1:A) (b1:B) (c1:C)
def qM (u:A) (z:B) (I:C):zT3 A B C:=⟨u,z,I⟩
def ze3 (z:zT3 A B C) (h:A->B->C->p):p:=h z.a1 z.b1 z.c1
structure zT4 (A B C D:Prop):Prop where
  mk::(a1:A) (b1:B) (c1:C) (d1:D)
def cD (u:A) (z:B) (I:C) (L:D):zT4 A B C D:=⟨u,z,I,L⟩
def ze4 (z:zT4 A B C D) (h:A->B->C->D->p):p:=h z.a1 z.b1 z.c1 z.d1
structure zT5 (A B C D E:Prop):Prop where
  mk::(a1:A) (b1:B) (c1:C) (d1:D) (e1:E)
def MG (u:A) (z:B) (I:C) (L:D) (e1:E):zT5 A B C D E:=⟨u,z,I,L,e1⟩
def ze5 (z:zT5 A B C D E) (h:A->B->C->D->E->p):p:=h z.a1 z.b1 z.c1 z.d1 z.e1
structure zT6 (A B C D E F:Prop):Prop where
  mk::(a1:A) (b1:B) (c1:C) (d1:D) (e1:E) (f1:F)
def mb (u:A) (z:B) (I:C) (L:D) (e1:E) (M:F):zT6 A B C D E F:=⟨u,z,I,L,e1,M⟩
def ze6 (z:zT6 A B C D E F) (h:A->B->C->D->E->F->p):p:=h z.a1 z.b1 z.c1 z.d1 z.e1 z.f1
structure zT7 (A B C D E F G:Prop):Prop where
  mk::(a1:A) (b1:B) (c1:C) (d1:D) (e1:E) (f1:F) (g1:G)
def Ax (u:A) (z:B) (I:C) (L:D) (e1:E) (M:F) (O:G):zT7 A B C D E F G:=⟨u,z,I,L,e1,M,O⟩
def ze7 (z:zT7 A B C D E F G) (h:A->B->C->D->E->F->G->p):p:=h z.a1 z.b1 z.c1 z.d1 z.e1 z.f1 z.g1
structure zT8 (A B C D E F G H:Prop):Prop where
  mk::(a1:A) (b1:B) (c1:C) (d1:D) (e1:E) (f1:F) (g1:G) (h1:H)
def zy {H:Prop} (u:A) (z:B) (I:C) (L:D) (e1:E) (M:F) (O:G) (h1:H):zT8 A B C D E F G H:=⟨u,z,I,L,e1,M,O,h1⟩
def ze8 {H:Prop} (z:zT8 A B C D E F G H) (h:A->B->C->D->E->F->G->H->p):p:=h z.a1 z.b1 z.c1 z.d1 z.e1 z.f1 z.g1 z.h1
def yG (lb:Y) (k:q) (h:Y->aV q->p:=by(intro lb gd;(first|refine ze2 lb (λga ge=>?_)|refine ze3 lb (λga ge gn=>?_)|refine ze4 lb (λga ge gn gt=>?_)|refine ze5 lb (λga ge gn gt io=>?_)|refine ze6 lb (λga ge gn gt io la=>?_)|refine ze7 lb (λga ge gn gt io la ld=>?_)|refine ze8 lb (λga ge gn gt io la ld lf=>?_));(repeat' (first|refine WZ ?_|refine SG (I2 (λgv=>?_) λgv=>?_)|refine SG λgv=>?_|(refine zG ?_;refine SM ?_)|refine SR ?_|refine SK (I2 (λgv=>?_) λgv=>?_)|refine SK λgv=>?_|fail));(all_goals (repeat revert gv));first|done|(exact gd.h;done)|(exact gd.h.1;exact gd.h.2;done)|(exact gd.h.1;exact gd.h.2.1;exact gd.h.2.2;done)|(exact gd.h.1;exact gd.h.2.1;exact gd.h.2.2.1;exact gd.h.2.2.2;done)|(exact gd.h.1;exact gd.h.2.1;exact gd.h.2.2.1;exact gd.h.2.2.2.1;exact gd.h.2.2.2.2;done)|(exact gd.h.1;exact gd.h.2.1;exact gd.h.2.2.1;exact gd.h.2.2.2.1;exact gd.h.2.2.2.2.1;exact gd.h.2.2.2.2.2;done))):p:=h lb ⟨k⟩
def mx{Y p:Prop}(k:Y)(h:Y->p:=by(intro k;refine yG k ?_;exact zI)):p:=h k
def zS (lb:Y) (k:q) (h:Y->aV q->p:=by(intro ga gd;(repeat' (first|refine WZ ?_|refine SG (I2 (λgv=>?_) λgv=>?_)|refine SG λgv=>?_|(refine zG ?_;refine SM ?_)|refine SR ?_|refine SK (I2 (λgv=>?_) λgv=>?_)|refine SK λgv=>?_|fail));(all_goals (repeat revert gv));first|done|(exact gd.h;done)|(exact gd.h.1;exact gd.h.2;done)|(exact gd.h.1;exact gd.h.2.1;exact gd.h.2.2;done)|(exact gd.h.1;exact gd.h.2.1;exact gd.h.2.2.1;exact gd.h.2.2.2;done)|(exact gd.h.1;exact gd.h.2.1;exact gd.h.2.2.1;exact gd.h.2.2.2.1;exact gd.h.2.2.2.2;done)|(exact gd.h.1;exact gd.h.2.1;exact gd.h.2.2.1;exact gd.h.2.2.2.1;exact gd.h.2.2.2.2.1;exact gd.h.2.2.2.2.2;done))):p:=h lb ⟨k⟩
def ng{Y p:Prop}(k:Y)(h:Y->p:=by(intro k;refine zS k ?_;exact zI)):p:=h k
def RE (lb:Y) (k:q) (h:Y->aV q->p:=by(intro lb gd;(first|refine ze2 lb (λga ge=>?_)|refine ze3 lb (λga ge gn=>?_)|refine ze4 lb (λga ge gn gt=>?_)|refine ze5 lb (λga ge gn gt io=>?_)|refine ze6 lb (λga ge gn gt io la=>?_)|refine ze7 lb (λga ge gn gt io la ld=>?_)|refine ze8 lb (λga ge gn gt io la ld lf=>?_));(repeat' (first|refine WY ?_|refine SG (I2 (λgv=>?_) λgv=>?_)|refine SG λgv=>?_|(refine zG ?_;first|refine SL ?_|refine SM ?_)|refine SB ?_|refine SR ?_|refine SK (I2 (λgv=>?_) λgv=>?_)|refine SK λgv=>?_|fail));(all_goals (repeat revert gv));first|done|(exact gd.h;done)|(exact gd.h.1;exact gd.h.2;done)|(exact gd.h.1;exact gd.h.2.1;exact gd.h.2.2;done)|(exact gd.h.1;exact gd.h.2.1;exact gd.h.2.2.1;exact gd.h.2.2.2;done)|(exact gd.h.1;exact gd.h.2.1;exact gd.h.2.2.1;exact gd.h.2.2.2.1;exact gd.h.2.2.2.2;done)|(exact gd.h.1;exact gd.h.2.1;exact gd.h.2.2.1;exact gd.h.2.2.2.1;exact gd.h.2.2.2.2.1;exact gd.h.2.2.2.2.2;done))):p:=h lb ⟨k⟩
def nm{Y p:Prop}(k:Y)(h:Y->p:=by(intro k;refine RE k ?_;exact zI)):p:=h k
def WH (lb:Y) (k:q) (h:Y->aV q->p:=by(intro ga gd;(repeat' (first|refine WY ?_|refine SG (I2 (λgv=>?_) λgv=>?_)|refine SG λgv=>?_|(refine zG ?_;first|refine SL ?_|refine SM ?_)|refine SB ?_|refine SR ?_|refine SK (I2 (λgv=>?_) λgv=>?_)|refine SK λgv=>?_|fail));(all_goals (repeat revert gv));first|done|(exact gd.h;done)|(exact gd.h.1;exact gd.h.2;done)|(exact gd.h.1;exact gd.h.2.1;exact gd.h.2.2;done)|(exact gd.h.1;exact gd.h.2.1;exact gd.h.2.2.1;exact gd.h.2.2.2;done)|(exact gd.h.1;exact gd.h.2.1;exact gd.h.2.2.1;exact gd.h.2.2.2.1;exact gd.h.2.2.2.2;done)|(exact gd.h.1;exact gd.h.2.1;exact gd.h.2.2.1;exact gd.h.2.2.2.1;exact gd.h.2.2.2.2.1;exact gd.h.2.2.2.2.2;done))):p:=h lb ⟨k⟩
def oj{Y p:Prop}(k:Y)(h:Y->p:=by(intro k;refine WH k ?_;exact zI)):p:=h k
def I1 (lb:Y) (k:q) (h:Y->aV q->p:=by(intro lb gd;(first|refine ze2 lb (λga ge=>?_)|refine ze3 lb (λga ge gn=>?_)|refine ze4 lb (λga ge gn gt=>?_)|refine ze5 lb (λga ge gn gt io=>?_)|refine ze6 lb (λga ge gn gt io la=>?_)|refine ze7 lb (λga ge gn gt io la ld=>?_)|refine ze8 lb (λga ge gn gt io la ld lf=>?_));(repeat' (first|refine WZ ?_|refine SG (I2 (λgv=>?_) λgv=>?_)|refine SG λgv=>?_|(refine zG ?_;refine SM ?_)|refine SX ?_|fail));(all_goals (repeat revert gv));first|done|(exact gd.h;done)|(exact gd.h.1;exact gd.h.2;done)|(exact gd.h.1;exact gd.h.2.1;exact gd.h.2.2;done)|(exact gd.h.1;exact gd.h.2.1;exact gd.h.2.2.1;exact gd.h.2.2.2;done)|(exact gd.h.1;exact gd.h.2.1;exact gd.h.2.2.1;exact gd.h.2.2.2.1;exact gd.h.2.2.2.2;done)|(exact gd.h.1;exact gd.h.2.1;exact gd.h.2.2.1;exact gd.h.2.2.2.1;exact gd.h.2.2.2.2.1;exact gd.h.2.2.2.2.2;done))):p:=h lb ⟨k⟩
def WDo (lb:Y) (k:q) (h:Y->aV q->p:=by(intro ga gd;(repeat' (first|refine WZ ?_|refine SG (I2 (λgv=>?_) λgv=>?_)|refine SG λgv=>?_|(refine zG ?_;refine SM ?_)|refine SX ?_|fail));(all_goals (repeat revert gv));first|done|(exact gd.h;done)|(exact gd.h.1;exact gd.h.2;done)|(exact gd.h.1;exact gd.h.2.1;exact gd.h.2.2;done)|(exact gd.h.1;exact gd.h.2.1;exact gd.h.2.2.1;exact gd.h.2.2.2;done)|(exact gd.h.1;exact gd.h.2.1;exact gd.h.2.2.1;exact gd.h.2.2.2.1;exact gd.h.2.2.2.2;done)|(exact gd.h.1;exact gd.h.2.1;exact gd.h.2.2.1;exact gd.h.2.2.2.1;exact gd.h.2.2.2.2.1;exact gd.h.2.2.2.2.2;done))):p:=h lb ⟨k⟩
def eM {f:Nat} {fn:Func} {body:Code} {args:List AV} (u:bH prog f) (h:∀F:Fr (xB h0),F.ro=none/\F.it=false->uD prog F fn.ntmps body ⟨UE 0 args,h0⟩ (Fin TT fn.results.toList h0 r h1)) (O:prog.funcs[f]? =some fn:=by exact Z) (hb:fn.body=some body:=by exact Z) (z:Nat.ble (ln args) fn.ntmps=true:=by exact Z) (M:vX h0=true:=by exact Z) (I:vX h1=true:=by exact Z) (L:Nat.ble fn.ntmps GS=true:=by rfl):xO prog f args h0 r h1:=eN O u h hb z M I L
abbrev zN:=xO prog
def PX (h:p:=by(apply vQ;(exact zI);simp only[uN,zA4,zAx,zBm,zB3,zB8,zCw,zDx];omega)):p:=h
def MH (h:p:=by(exfalso;omega)):p:=h
def zB (h:p:=by omega):p:=h
def iA (n:Int):AV:= .s (.int .i64 n)
def yA (n:Int):AV:= .s (.int .u8 n)
def bA (b:Bool):AV:= .s (.bool b)
def zE (f:α->AV) (l:List α):AV:= .sl false (l.map f)
structure Cl where
 ag:Int
 id:Int
 ph:Int
 k:Int
 si:Int
structure Sv where
 ph:Int
 gr:Int
 en:List Int
structure Ph where
 ring:Int
 group:Int
 ming:Int
 maxg:Int
 yel:Int
 red:Int
 walk:Int
 clear:Int
structure Jn where
 ph:List Ph
 cf:List Int
 st:Int
structure Ag where
 sec:List Int
 rights:Int
 cls:Int
 lim:List Int
 req:Int
 ses:Int
 rate:Int
 burst:Int
structure Cf where
 js:List Jn
 ags:List Ag
 per:Int
 cap:Int
 hold:Int
 lock:Int
structure Tk where
 used:Bool
 sec:List Int
 par:Int
 rights:Int
 cls:Int
 til:Int
structure Vh where
 id:Int
 cls:Int
structure Bk where
 level:Int
 rate:Int
 burst:Int
structure Rg where
 num:Int
 ag:Ag
 tk:List Tk
 vh:List Vh
 bk:Bk
structure Ms where
 kind:Int
 tok:List Int
 args:List Int
 data:List Int
def kE (c:Cl):AV:= .agg [iA c.ag,iA c.id,iA c.ph,iA c.k,iA c.si]
def wW (s:Sv):AV:= .agg [iA s.ph,iA s.gr,zE iA s.en]
def xN (p:Ph):AV:= .agg [iA p.ring,iA p.group,iA p.ming,iA p.maxg,iA p.yel,iA p.red,iA p.walk,iA p.clear]
def wJ (j:Jn):AV:= .agg [zE xN j.ph,zE iA j.cf,iA j.st]
def uI (a:Ag):AV:= .agg [zE yA a.sec,iA a.rights,iA a.cls,zE iA a.lim,iA a.req,iA a.ses,iA a.rate,iA a.burst]
def wE (c:Cf):AV:= .agg [zE wJ c.js,zE uI c.ags,iA c.per,iA c.cap,iA c.hold,iA c.lock]
def yP (t:Tk):AV:= .agg [bA t.used,zE yA t.sec,iA t.par,iA t.rights,iA t.cls,iA t.til]
def vB (v:Vh):AV:= .agg [iA v.id,iA v.cls]
def aj (b:Bk):AV:= .agg [iA b.level,iA b.rate,iA b.burst]
def uQ (r:Rg):AV:= .agg [iA r.num,zE yA r.ag.sec,iA r.ag.rights,iA r.ag.cls,zE iA r.ag.lim,iA r.ag.req,iA r.ag.ses,iA r.ag.rate,iA r.ag.burst,zE yP r.tk,zE vB r.vh,iA r.bk.level,iA r.bk.rate,iA r.bk.burst]
def zW (m:Ms):AV:= .agg [iA m.kind,zE yA m.tok,zE iA m.args,zE yA m.data]
instance:Inhabited Tk:=⟨⟨false,[],-1,0,0,0⟩⟩
instance:Inhabited Vh:=⟨⟨0,0⟩⟩
instance:Inhabited Cl:=⟨⟨0,0,0,0,0⟩⟩
instance:Inhabited Ph:=⟨⟨0,0,0,0,0,0,0,0⟩⟩
instance:Inhabited Jn:=⟨⟨[],[],0⟩⟩
instance:Inhabited Ag:=⟨⟨[],0,0,[],0,0,0,0⟩⟩
def vQ {TT:List TI} {z:List ResultVar} {e:Exit} {st:St} {b u:Bool} (h:Fin TT z h0 (bA u) h1 e st) (hb:u=b):Fin TT z h0 (bA b) h1 e st:=hb▸h
def zJ [Inhabited α] (f:α->AV) (l:List α) (i:Nat) (h:i<ln l):(l.map f)[i]? =some (f (l.getD i dd)):=by simp[List.getD,h]
def yE [Inhabited α] (f:α->AV) (l:List α) (i:Int) (h0:0<=i) (h:i<ln l):(l.map f)[i.toNat]? =some (f (l.getD i.toNat dd)):=zJ f l _ (by omega)
theorem Ru (v n:Int) (h1:1<=n): -n<v.tmod n/\v.tmod n<n/\v % n=if v.tmod n<0 then v.tmod n+n else v.tmod n:=by
 have u:=zD0 v (show n≠0 by omega);have e1:=zDj v (show 0<n by omega)
 grind [Int.tmod_eq_emod,Int.dvd_of_emod_eq_zero]
def Xf (v n:Int) (h1:1<=n) (h2:n<=1099511627776):xO prog 11 [iA v,iA n] [] (iA (v % n)) []:=by
 obtain⟨u,z,e⟩:=Ru v n h1;by_cases h:v.tmod n<0
 .rw[e,f5 h]
  (refine eM call11 λF hF=>?_)
  (repeat' (first|refine aM ?_|refine yW (λhc=>?_) λhc=>?_|fail))
  exact zI
 .rw[e,Os h]
  (refine eM call11 λF hF=>?_)
  (repeat' (first|refine aM ?_|refine yW (λhc=>?_) λhc=>?_|fail))
  exact zI
structure Dk where
 l:List Int
 a:Nat
 h:a<=l.length
 hl:l.length<=9223372036854775807
def eE (d:Dk):xW:= .box [zE iA d.l,iA d.a]
def nx (d:Dk) (n:Int):Int:=if d.a<ln d.l then d.l.getD d.a 0 % n else 0
def ad (d:Dk):Dk:=if h:d.a<ln d.l then⟨d.l,d.a+1,h,d.hl⟩else d
theorem yQ (d:Dk) (n:Int) (h1:1<=n):0<=nx d n/\nx d n<n:=by
 unfold nx;split
 .exact⟨zD0 _ (by omega),zDj _ (by omega)⟩
 .omega
def Y7 (l:List Int) (hl:ln l<=9223372036854775807):xO prog 8 [zE iA l] [] (.ptr 1000 0 0) [(1000,eE ⟨l,0,zA9 _,hl⟩)]:=by
 (refine eM call8 λF hF=>?_)
 repeat' (first|refine uL tok Z Z ?_|(first|apply xY|apply xR|refine vZ Z ?_|refine yR Z ?_|refine yD Z ?_|refine xZ Z (λhc=>?_) λhc=>?_|apply xJ|apply xL|apply xQ|apply xC)|apply kP|refine uU (dI (v:= .agg _) 1000 Z Z) Z Z Z ?_)
 exact zP [1000] Z Z Z Z
def yT (d:Dk) (n:Int) (h1:1<=n) (h2:n<=1099511627776):xO prog 16 [.ptr 1000 0 0,iA n] [(1000,eE d)] (iA (nx d n)) [(1000,eE (ad d))]:=by
 have hl:(d.l.map iA).length=ln d.l:=by simp
 have hb:=d.hl;by_cases h:d.a<ln d.l
 .have u:=yE iA d.l ((d.a:Int)+1-1) (by omega) (by omega);rw[show nx d n=d.l.getD ((d.a:Int)+1-1).toNat 0 % n by unfold nx;rw[f5 h,show((d.a:Int)+1-1).toNat=d.a by omega]];rw[show ad d=⟨d.l,d.a+1,h,d.hl⟩ by unfold ad;rw[zF1 h]]
  (refine eM call16 λF hF=>?_)
  (repeat' (first|refine aM ?_|refine yW (λhc=>?_) λhc=>?_|(apply zG;apply xP;refine wM (zL (Xf _ _ h1 h2) Z Z Z Z Z) Z ?_)|fail))
  exact zP [1000] Z Z Z Z
 .rw[show nx d n=0 by unfold nx;rw[Os h],show ad d=d by unfold ad;rw[dif_neg h]]
  (refine eM call16 λF hF=>?_)
  (repeat' (first|refine aM ?_|refine yW (λhc=>?_) λhc=>?_|(apply zG;apply xP;refine wM (zL (Xf _ _ h1 h2) Z Z Z Z Z) Z ?_)|fail))
  exact zP [1000] Z Z Z Z
def jO (d:Dk) (lo hi:Int) (h1:0<=lo) (h2:lo<=hi) (u:hi<=1000000000):xO prog 68 [.ptr 1000 0 0,iA lo,iA hi] [(1000,eE d)] (iA (lo+nx d (hi-lo+1))) [(1000,eE (ad d))]:=by
 have hb:=yQ d (hi-lo+1) (by omega)
 (refine eM call68 λF hF=>?_)
 (repeat' (first|refine aM ?_|refine yW (λhc=>?_) λhc=>?_|(apply zG;apply xP;refine uU (zL (yT d _ (by omega) (by omega)) Z Z Z Z Z) Z Z Z ?_)|fail))
 exact zP [1000] Z Z Z Z
structure Lg where
 jn:Int
 ph:Int
 fr:Int
 to:Int
 sc:Int
variable {post f4:List Lg}
structure Rq where
 id:Int
 vh:Int
 cls:Int
 til:Int
 legs:List Lg
instance:Inhabited Lg:=⟨⟨0,0,0,0,0⟩⟩
instance:Inhabited Rq:=⟨⟨0,0,0,0,[]⟩⟩
def yO (l:Lg):AV:= .agg [iA l.jn,iA l.ph,iA l.fr,iA l.to,iA l.sc]
def zY (r:Rq):AV:= .agg [iA r.id,iA r.vh,iA r.cls,iA r.til,zE yO r.legs]
def yy (j p:Int):Bool:=decide (0<=j/\j<4/\0<=p/\p<8)
def EL (j p f t f3:Int):Bool:=decide (0<=j/\j<4/\0<=p/\p<8/\0<=f3/\f3<=1073741824/\0<=f/\f<=t/\t<=600)
def GV (j p f t f3:Int):Lg:=if EL j p f t f3=true then⟨j,p,f3+f,f3+t,-1⟩else⟨0,0,0,0,0⟩
def QV (l:Lg):Bool:=decide (0<=l.jn/\l.jn<4/\0<=l.ph/\l.ph<8/\0<=l.fr/\l.fr<=l.to/\l.to<=2147483648/\ -1<=l.sc/\l.sc<=1073741824)
def EM (l:Lg) (f3:Int):Bool:=decide (l.fr<=f3/\f3<=l.to)
def fA (l:Lg) (f3:Int):Lg:=if EM l f3=true then(if l.sc= -1 then⟨l.jn,l.ph,l.fr,l.to,f3⟩else l)else⟨l.jn,l.ph,l.fr,l.to,-1⟩
def Wf (j p:Int):xO prog 381 [iA j,iA p] [] (bA (yy j p)) []:=by
 (cases hb:yy j p with|false=>((refine eM call381 λF hF=>?_);((refine WW (I4 (λhc hc hc=>?_) (λhc hc hc=>?_) (λhc hc=>?_) λhc=>?_)));all_goals (first|exact zI|(simp only[yy,zA4]at hb;first|(exfalso;omega)|(apply vQ;(exact zI);simp only[uN,zA4,zAx,zBm,zB3,zB8,zCw,zDx];omega))))|true=>(simp only[yy,zAx]at hb;(refine eM call381 λF hF=>?_);((refine WW ?_));all_goals (first|exact zI|(exfalso;omega)|(apply vQ;(exact zI);simp only[uN,zA4,zAx,zBm,zB3,zB8,zCw,zDx];omega))))
def kL (n a b:Int):xO prog 296 [iA n,iA a,iA b] [] (bA (decide (a<=n/\n<=b))) []:=by
 cases hb:decide (a<=n/\n<=b)with
 |false=>
  rw[zA4]at hb
  (refine eM call296 λF hF=>?_)
  (refine WW (I2 (λhc=>?_) λhc=>?_))
  all_goals (first|exact zI|(exfalso;omega)|(apply vQ;(exact zI);simp only[uN,zA4,zAx,zBm,zB3,zB8,zCw,zDx];omega))
 |true=>
  rw[zAx]at hb
  (refine eM call296 λF hF=>?_)
  (refine WW ?_)
  all_goals (first|exact zI|(exfalso;omega)|(apply vQ;(exact zI);simp only[uN,zA4,zAx,zBm,zB3,zB8,zCw,zDx];omega))
def Vf (j p f t f3:Int):xO prog 352 [iA j,iA p,iA f,iA t,iA f3] [] (.tup [yO (GV j p f t f3),iA (if EL j p f t f3=true then 0 else 8)]) []:=by
 have u:=Wf j p;unfold GV
 cases hb:EL j p f t f3 with
 | false=>
  rw[Os zA7,Os zA7];unfold EL at hb;rw[zA4]at hb;unfold yy at u;unfold yO;by_cases z:0<=j/\j<4/\0<=p/\p<8
  .rw[zAu z]at u
   (refine eM call352 λF hF=>?_)
   (have ga:=u;refine WW (I5 (λhc=>?_) (λhc hc=>?_) (λhc hc hc=>?_) (λhc hc hc hc=>?_) (λhc hc hc hc=>?_))<;>clear ga)
   all_goals (first|exact zI|(exfalso;omega))
  .rw[zAs z]at u
   (refine eM call352 λF hF=>?_)
   (have ga:=u;refine WW ?_;clear ga)
   all_goals (first|exact zI|(exfalso;omega))
 |true=>
  rw[f5 Z,f5 Z];unfold EL at hb;rw[zAx]at hb;unfold yy at u;rw[zAu (by omega)]at u;unfold yO
  (refine eM call352 λF hF=>?_)
  (have ga:=u;refine WW ?_;clear ga)
  exact zI
def AK (j p f t f3:Int):xO prog 292 [iA j,iA p,iA f,iA t,iA f3] [] (.tup [yO (GV j p f t f3),iA (if EL j p f t f3=true then 0 else 8)]) []:=by
 have u:=kL j 0 3;have z:=kL p 0 7;have I:=kL f3 0 1073741824;have L:=kL f 0 t;unfold GV
 cases hb:EL j p f t f3 with
 | false=>
  rw[Os zA7,Os zA7];unfold EL at hb;rw[zA4]at hb;unfold yO;by_cases h1:0<=j/\j<=3
  case neg=>
   rw[zAs h1]at u
   (refine eM call292 λF hF=>?_)
   (have ga:=u;refine WW ?_;clear ga)
   exact zI
  rw[zAu h1]at u;by_cases h2:0<=p/\p<=7
  case neg=>
   rw[zAs h2]at z
   (refine eM call292 λF hF=>?_)
   (have ga:=u;have ge:=z;refine WW ?_;clear ga ge)
   exact zI
  rw[zAu h2]at z;by_cases M:0<=f3/\f3<=1073741824
  case neg=>
   rw[zAs M]at I
   (refine eM call292 λF hF=>?_)
   (have ga:=u;have ge:=z;have gn:=I;refine WW ?_;clear ga ge gn)
   exact zI
  rw[zAu M]at I;by_cases O:0<=f/\f<=t
  case neg=>
   rw[zAs O]at L
   (refine eM call292 λF hF=>?_)
   (have ga:=u;have ge:=z;have gn:=I;have gt:=L;refine WW ?_;clear ga ge gn gt)
   exact zI
  rw[zAu O]at L
  (refine eM call292 λF hF=>?_)
  (have ga:=u;have ge:=z;have gn:=I;have gt:=L;refine WW ?_;clear ga ge gn gt)
  all_goals (first|exact zI|(exfalso;omega))
 |true=>
  rw[f5 Z,f5 Z];unfold EL at hb;rw[zAx]at hb;rw[zAu (by omega)]at u z I L;unfold yO
  (refine eM call292 λF hF=>?_)
  (have ga:=u;have ge:=z;have gn:=I;have gt:=L;refine WW ?_;clear ga ge gn gt)
  exact zI
def Zn (l:Lg) (f3:Int):xO prog 274 [yO l,iA f3] [] (bA (EM l f3)) []:=by
 (cases hb:EM l f3 with|false=>((refine eM call274 λF hF=>?_);((refine WW (I2 (λhc=>?_) λhc=>?_)));all_goals (first|exact zI|(simp only[EM,zA4]at hb;first|(exfalso;omega)|(apply vQ;(exact zI);simp only[uN,zA4,zAx,zBm,zB3,zB8,zCw,zDx];omega))))|true=>(simp only[EM,zAx]at hb;(refine eM call274 λF hF=>?_);((refine WW ?_));all_goals (first|exact zI|(exfalso;omega)|(apply vQ;(exact zI);simp only[uN,zA4,zAx,zBm,zB3,zB8,zCw,zDx];omega))))
def Uf (l:Lg) (f3:Int):xO prog 247 [yO l,iA f3] [] (bA (EM l f3)) []:=by
 have c:=kL f3 l.fr l.to;unfold EM;generalize decide (l.fr<=f3/\f3<=l.to)=b at*
 (refine eM call247 λF hF=>?_)
 (have ga:=c;refine WW ?_;clear ga)
 exact zI
def eG (l:Lg) (f3:Int):xO prog 226 [yO l,iA f3] [] (yO (fA l f3)) []:=by
 have c:=Zn l f3;unfold fA;generalize EM l f3=b at*
 cases b with
 |false=>
  rw[Os zA7];unfold yO at*
  (refine eM call226 λF hF=>?_)
  (have ga:=c;refine WW ?_;clear ga)
  exact zI
 | true=>
  rw[f5 Z];by_cases h:l.sc= -1
  .rw[f5 h];unfold yO at*
   (refine eM call226 λF hF=>?_)
   (have ga:=c;refine WW ?_;clear ga)
   exact zI
  .rw[Os h];unfold yO at*
   (refine eM call226 λF hF=>?_)
   (have ga:=c;refine WW ?_;clear ga)
   exact zI
def hG (l:Lg) (f3:Int):xO prog 194 [yO l,iA f3] [] (yO (fA l f3)) []:=by
 have c:=Uf l f3;unfold fA;generalize EM l f3=b at*
 cases b with
 |false=>
  rw[Os zA7];unfold yO at*
  (refine eM call194 λF hF=>?_)
  (have ga:=c;refine WW ?_;clear ga)
  exact zI
 | true=>
  rw[f5 Z];by_cases h:l.sc= -1
  .rw[f5 h];unfold yO at*
   (refine eM call194 λF hF=>?_)
   (have ga:=c;refine WW ?_;clear ga)
   exact zI
  .rw[Os h];unfold yO at*
   (refine eM call194 λF hF=>?_)
   (have ga:=c;refine WW ?_;clear ga)
   exact zI
def Yn (l:Lg):xO prog 398 [yO l] [] (bA (QV l)) []:=by
 have u:=Wf l.jn l.ph
 cases hb:QV l with
 | false=>
  unfold QV at hb;rw[zA4]at hb;unfold yy at u;by_cases z:0<=l.jn/\l.jn<4/\0<=l.ph/\l.ph<8
  .rw[zAu z]at u
   (refine eM call398 λF hF=>?_)
   (have ga:=u;refine WW (I5 (λhc hc hc hc=>?_) (λhc hc hc hc=>?_) (λhc hc hc=>?_) (λhc hc=>?_) λhc=>?_)<;>clear ga)
   all_goals (first|exact zI|(exfalso;omega)|(apply vQ;(exact zI);simp only[uN,zA4,zAx,zBm,zB3,zB8,zCw,zDx];omega))
  .rw[zAs z]at u
   (refine eM call398 λF hF=>?_)
   (have ga:=u;refine WW ?_;clear ga)
   all_goals (first|exact zI|(exfalso;omega)|(apply vQ;(exact zI);simp only[uN,zA4,zAx,zBm,zB3,zB8,zCw,zDx];omega))
 |true=>
  unfold QV at hb;rw[zAx]at hb;unfold yy at u;rw[zAu (by omega)]at u
  (refine eM call398 λF hF=>?_)
  (have ga:=u;refine WW ?_;clear ga)
  all_goals (first|exact zI|(exfalso;omega)|(apply vQ;(exact zI);simp only[uN,zA4,zAx,zBm,zB3,zB8,zCw,zDx];omega))
def Fh (l:Lg):xO prog 369 [yO l] [] (bA (QV l)) []:=by
 have u:=kL l.jn 0 3;have z:=kL l.ph 0 7;have I:=kL l.fr 0 l.to;have L:=kL l.sc (-1) 1073741824
 cases hb:QV l with
 | false=>
  unfold QV at hb;rw[zA4]at hb;by_cases h1:0<=l.jn/\l.jn<=3
  case neg=>
   rw[zAs h1]at u
   (refine eM call369 λF hF=>?_)
   (have ga:=u;refine WW ?_;clear ga)
   exact zI
  rw[zAu h1]at u;by_cases h2:0<=l.ph/\l.ph<=7
  case neg=>
   rw[zAs h2]at z
   (refine eM call369 λF hF=>?_)
   (have ga:=u;have ge:=z;refine WW ?_;clear ga ge)
   exact zI
  rw[zAu h2]at z;by_cases M:0<=l.fr/\l.fr<=l.to
  case neg=>
   rw[zAs M]at I
   (refine eM call369 λF hF=>?_)
   (have ga:=u;have ge:=z;have gn:=I;refine WW ?_;clear ga ge gn)
   exact zI
  rw[zAu M]at I;by_cases O: -1<=l.sc/\l.sc<=1073741824
  case neg=>
   rw[zAs O]at L
   (refine eM call369 λF hF=>?_)
   (have ga:=u;have ge:=z;have gn:=I;have gt:=L;refine WW (I2 (λhc=>?_) λhc=>?_)<;>clear ga ge gn gt)
   all_goals (first|exact zI|(exfalso;omega))
  rw[zAu O]at L
  (refine eM call369 λF hF=>?_)
  (have ga:=u;have ge:=z;have gn:=I;have gt:=L;refine WW ?_;clear ga ge gn gt)
  all_goals (first|exact zI|(exfalso;omega))
 |true=>
  unfold QV at hb;rw[zAx]at hb;rw[zAu (by omega)]at u z I L
  (refine eM call369 λF hF=>?_)
  (have ga:=u;have ge:=z;have gn:=I;have gt:=L;refine WW ?_;clear ga ge gn gt)
  all_goals (first|exact zI|(exfalso;omega))
def kU:List Lg->List Lg->Bool
 |_,[]=>true
 |f4,x::post=>QV x&&(!(f4.any λy=>y.jn==x.jn)&&kU (f4++[x]) post)
def AL (l:List Lg):Bool:=decide (1<=(ln l:Int)/\(ln l:Int)<=3)&&kU [] l
def Tf {x:Lg} (h:QV x=false):kU f4 (x::post)=false:=by simp[kU,h]
theorem Sf {x y:Lg} (u:y∈f4) (h:y.jn=x.jn):kU f4 (x::post)=false:=by grind [kU]
theorem JX {x:Lg} (h:QV x=true) (u:∀y∈f4,y.jn≠x.jn):kU f4 (x::post)=kU (f4++[x]) post:=by grind [QV,kU]
def Rf (l:List Lg):xO prog 384 [zE yO l] [] (bA (AL l)) []:=by
 have hl:=zA yO l;unfold AL;by_cases M:1<=(ln l:Int)/\(ln l:Int)<=3
 case neg=>
  rw[zAs M,zBt];by_cases h1:1<=(ln l:Int)
  all_goals
   (refine eM call384 λF hF=>?_)
   exact ly
 rw[zAu M,zA3];obtain⟨h1,M⟩:=M
 (refine eM call384 λF hF=>?_)
 (refine WW ?_)
 (refine uX (l) [] [] [0,15,16] [17,0,15,16] Z (λi f4 T U zs=>(∀post,l=f4++post->kU [] l=kU f4 post)/\zs=⟨(17,iA i)::T,U⟩) (Lp ?_ ?_ ?_))
 .exact⟨λpost h=>by rw[h];rfl,rfl⟩
 .rintro i f4 x post st hx hi ⟨hp,rfl⟩;have hy:=yJ yO hx hi;have ar:=zX hx hi;rw[hp _ hx];have L:=Yn x
  have u:QV x=true->(∀y∈f4,y.jn≠x.jn)->∀p,l=(f4++[x])++p->kU f4 (x::post)=kU (f4++[x]) p:=λa b p h=>by
   have e:p=post:=by rw[hx,zBh]at h;simpa using h.symm
   rw[e];exact JX a b
  cases hv:QV x with
  |false=>
   rw[Tf hv];rw[hv]at L;clear hx hp u
   (have ga:=L;refine WW ?_;clear ga)
   exact zI
  | true=>
   rw[hv]at L;have V:l.take i=f4:=by rw[hx,<-hi];simp
   have ag:(List.map yO (pi (i:Int).toNat l)).length=(l.take i).length:=zA yO (l.take i);have ap:(l.take i).length=i:=by rw[V];exact hi
   (have ga:=L;refine WW ?_;clear ga)
   (refine uX (l.take i) [4] [4] [0,4,15,16,17,27,28] [29,0,4,15,16,17,27,28] Z (λi f4 T U zs=>(∀y∈f4,y.jn≠x.jn)/\zs=⟨(29,iA i)::T,U⟩) (Lp ?_ ?_ ?_))
   .exact⟨by simp,rfl⟩
   .rintro k pr y po W I hk ⟨hp2,rfl⟩;have au:=yJ yO I hk;have ac:=zX I hk;by_cases he:y.jn=x.jn
    .rw[Sf (by rw[<-V,I];simp) he];clear I hx hp u
     exact ly
    .have S:∀z∈pr++[y],z.jn≠x.jn:=λz O=>by
      simp only[zBc,zBl]at O
      rcases O with O|rfl
      .exact hp2 z O
      .exact he
     clear I hx hp u
     (refine WW ?_)
     exact⟨S,rfl⟩
   .rintro W ⟨hp2,rfl⟩;have R:=u hv (by rw[<-V];exact hp2);clear hx hp u
    (refine WW ?_)
    exact⟨R,rfl⟩
 .rintro st ⟨hp,rfl⟩;rw[hp [] zV]
  exact ly
def wQ (n a b:Int):xO prog 334 [iA n,iA a,iA b] [] (bA (decide (a<=n/\n<=b))) []:=by
 cases hb:decide (a<=n/\n<=b)with
 |false=>
  rw[zA4]at hb
  (refine eM call334 λF hF=>?_)
  (refine WW (I2 (λhc=>?_) λhc=>?_))
  all_goals (first|exact zI|(exfalso;omega)|(apply vQ;(exact zI);simp only[uN,zA4,zAx,zBm,zB3,zB8,zCw,zDx];omega))
 |true=>
  rw[zAx]at hb
  (refine eM call334 λF hF=>?_)
  (refine WW ?_)
  all_goals (first|exact zI|(exfalso;omega)|(apply vQ;(exact zI);simp only[uN,zA4,zAx,zBm,zB3,zB8,zCw,zDx];omega))
def GW (l:List Lg) (hn:ln l<=1000000):xO prog 335 [zE yO l] [] (bA (AL l)) []:=by
 have hl:=zA yO l;have cw:=wQ ((l.map yO).length:Int) 1 3;have e:decide (1<=((l.map yO).length:Int)/\((l.map yO).length:Int)<=3)=decide (1<=(ln l:Int)/\(ln l:Int)<=3):=by rw[hl]
 rw[e]at cw;clear e;unfold AL
 (refine eM call335 λF hF=>?_)
 (refine WW ?_)
 (refine uX (l) [] [] [0,7,8] [9,0,7,8] Z (λi f4 T U W=>(∀post,l=f4++post->kU [] l=kU f4 post)/\W=⟨(9,iA i)::T,U⟩) (Lp ?_ ?_ ?_))
 .exact⟨λpost h=>by rw[h];rfl,rfl⟩
 .rintro i f4 x post st hx hi ⟨hp,rfl⟩;have hy:=yJ yO hx hi;have ar:=zX hx hi;rw[hp _ hx];have L:=Fh x
  have u:QV x=true->(∀y∈f4,y.jn≠x.jn)->∀p,l=(f4++[x])++p->kU f4 (x::post)=kU (f4++[x]) p:=λa b p h=>by
   have e:p=post:=by rw[hx,zBh]at h;simpa using h.symm
   rw[e];exact JX a b
  cases hv:QV x with
  |false=>
   rw[Tf hv,zCp];rw[hv]at L;clear hx hp u
   (have ga:=L;refine WW ?_;clear ga)
   exact zI
  | true=>
   rw[hv]at L;have S:l.take i=f4:=by rw[hx,<-hi];simp
   have ag:(List.map yO (pi (i:Int).toNat l)).length=(l.take i).length:=zA yO (l.take i);have ap:(l.take i).length=i:=by rw[S];exact hi
   (have ga:=L;refine WW ?_;clear ga)
   (refine uX (l.take i) [4] [4] [0,4,7,8,9,19,20] [21,0,4,7,8,9,19,20] Z (λi f4 T U W=>(∀y∈f4,y.jn≠x.jn)/\W=⟨(21,iA i)::T,U⟩) (Lp ?_ ?_ ?_))
   .exact⟨by simp,rfl⟩
   .rintro k pr y po V I hk ⟨hp2,rfl⟩;have au:=yJ yO I hk;have ac:=zX I hk;by_cases he:y.jn=x.jn
    .rw[Sf (by rw[<-S,I];simp) he,zCp];clear I hx hp u
     exact ly
    .have R:∀z∈pr++[y],z.jn≠x.jn:=λz M=>by
      simp only[zBc,zBl]at M
      rcases M with M|rfl
      .exact hp2 z M
      .exact he
     clear I hx hp u
     (refine WW ?_)
     exact⟨R,rfl⟩
   .rintro V ⟨hp2,rfl⟩;have O:=u hv (by rw[<-S];exact hp2);clear hx hp u
    (refine WW ?_)
    exact⟨O,rfl⟩
 .rintro st ⟨hp,rfl⟩;rw[hp [] zV,show kU l []=true from rfl,zDd];generalize decide (1<=(ln l:Int)/\(ln l:Int)<=3)=b at*
  (have ga:=cw;refine WW ?_;clear ga)
  exact zI
structure RqO (r:Rq):Prop where
 i0:0<=r.id
 i1:r.id<=4294967295
 v0:0<=r.vh
 v1:r.vh<=4294967295
 c0:0<=r.cls
 c1:r.cls<=3
 t0:0<=r.til
 t1:r.til<=2147483648
 lg:AL r.legs=true
structure cJ (l:List Rq):Prop where
 ok:∀r∈l,RqO r
 so:l.Pairwise λa b=>a.id<b.id
 n4:l.length<=4
theorem cJ.lt {l:List Rq} (h:cJ l) {i:Nat} (h0:0<i) (hi:i<ln l):(l.getD (i-1) dd).id<(l.getD i dd).id:=by
 have:=List.pairwise_iff_getElem.1 h.so (i-1) i (by omega) hi (by omega)
 grind
theorem XF {l:List Lg} (h:AL l=true):1<=(ln l:Int)/\(ln l:Int)<=3:=by grind [AL]
def MI (n:Int):xO prog 382 [iA n] [] (bA (decide (0<=n/\n<=4294967295))) []:=by
 cases hb:decide (0<=n/\n<=4294967295)with
 |false=>(rw[zA4]at hb;(refine eM call382 λF hF=>?_);((refine WW (I2 (λhc=>?_) λhc=>?_)));all_goals (first|exact zI|(exfalso;omega)|(apply vQ;(exact zI);simp only[uN,zA4,zAx,zBm,zB3,zB8,zCw,zDx];omega)))
 |true=>(rw[zAx]at hb;(refine eM call382 λF hF=>?_);((refine WW ?_));all_goals (first|exact zI|(exfalso;omega)|(apply vQ;(exact zI);simp only[uN,zA4,zAx,zBm,zB3,zB8,zCw,zDx];omega)))
def Ec (n:Int):xO prog 383 [iA n] [] (bA (decide (0<=n/\n<=3))) []:=by
 cases hb:decide (0<=n/\n<=3)with
 |false=>(rw[zA4]at hb;(refine eM call383 λF hF=>?_);((refine WW (I2 (λhc=>?_) λhc=>?_)));all_goals (first|exact zI|(exfalso;omega)|(apply vQ;(exact zI);simp only[uN,zA4,zAx,zBm,zB3,zB8,zCw,zDx];omega)))
 |true=>(rw[zAx]at hb;(refine eM call383 λF hF=>?_);((refine WW ?_));all_goals (first|exact zI|(exfalso;omega)|(apply vQ;(exact zI);simp only[uN,zA4,zAx,zBm,zB3,zB8,zCw,zDx];omega)))
def Qf (n:Int):xO prog 355 [iA n] [] (bA (decide (0<=n/\n<=1073741824))) []:=by
 cases hb:decide (0<=n/\n<=1073741824)with
 |false=>(rw[zA4]at hb;(refine eM call355 λF hF=>?_);((refine WW (I2 (λhc=>?_) λhc=>?_)));all_goals (first|exact zI|(exfalso;omega)|(apply vQ;(exact zI);simp only[uN,zA4,zAx,zBm,zB3,zB8,zCw,zDx];omega)))
 |true=>(rw[zAx]at hb;(refine eM call355 λF hF=>?_);((refine WW ?_));all_goals (first|exact zI|(exfalso;omega)|(apply vQ;(exact zI);simp only[uN,zA4,zAx,zBm,zB3,zB8,zCw,zDx];omega)))
def TK (l:List Rq) (q:Int) (hv:cJ l) (hq:(ln l:Int)<=q):xO prog 354 [zE zY l,iA q] [] (bA true) []:=by
 have hl:=zA zY l;have h4:=hv.n4
 (refine eM call354 λF hF=>?_)
 (refine WW ?_)
 (refine zO (ln l) [] [] [0,16,17] [18,0,16,17] Z (λi T U=>⟨(18,iA i)::T,U⟩) (Lq ?_ ?_))
 .intro i hi;have hy:=zJ zY l i hi;have I:l.getD i dd∈l:=by simp[py,hi]
  obtain⟨i0,i1,v0,v1,c0,c1,t0,t1,S⟩:=hv.ok _ I;have L:=MI (l.getD i dd).id;have M:=MI (l.getD i dd).vh;have O:=Ec (l.getD i dd).cls;have R:=Rf (l.getD i dd).legs;rw[zAu (by omega)]at L M O;rw[S]at R;by_cases z:0<i
  .have u:=yE zY l ((i:Int)-1) (by omega) (by omega);rw[show((i:Int)-1).toNat=i-1 by omega]at u;have W:(l.map zY)[((i:Int)-1).toNat]? =some (zY (l.getD (i-1) dd)):=by rw[show((i:Int)-1).toNat=i-1 by omega];exact u
   have V:=hv.lt z hi;clear u I S;generalize l.getD i dd=t,l.getD (i-1) dd=p at *
   (have ga:=L;have ge:=M;have gn:=O;have gt:=R;refine WW ?_;clear ga ge gn gt)
   rfl
  .obtain rfl:i=0:=by omega
   clear I S;generalize l.getD 0 dd=t at*
   (have ga:=L;have ge:=M;have gn:=O;have gt:=R;refine WW ?_;clear ga ge gn gt)
   rfl
 .exact ly
def XG (l:List Rq) (q:Int) (hv:cJ l) (hq:(ln l:Int)<=q):xO prog 295 [zE zY l,iA q] [] (bA true) []:=by
 have hl:=zA zY l;have h4:=hv.n4
 (refine eM call295 λF hF=>?_)
 (refine WW ?_)
 (refine zO (ln l) [] [] [0,1,7,8] [9,0,1,7,8] Z (λi T U=>⟨(9,iA i)::T,U⟩) (Lq ?_ ?_))
 .intro i hi;have hy:=zJ zY l i hi;have L:l.getD i dd∈l:=by simp[py,hi]
  obtain⟨i0,i1,v0,v1,c0,c1,t0,t1,z⟩:=hv.ok _ L;have M:=wQ (l.getD i dd).id 0 4294967295;have O:=wQ (l.getD i dd).vh 0 4294967295;have R:=wQ (l.getD i dd).cls 0 3;have V:=wQ (l.getD i dd).til 0 2147483648;have S:=GW (l.getD i dd).legs (by have:=XF z;omega);rw[zAu (by omega)]at M O R V;rw[z]at S;by_cases I:0<i
  .have u:=yE zY l ((i:Int)-1) (by omega) (by omega);rw[show((i:Int)-1).toNat=i-1 by omega]at u;have ac:(l.map zY)[((i:Int)-1).toNat]? =some (zY (l.getD (i-1) dd)):=by rw[show((i:Int)-1).toNat=i-1 by omega];exact u
   have W:=hv.lt I hi;clear u L z;generalize l.getD i dd=t,l.getD (i-1) dd=p at *
   (have ga:=M;have ge:=O;have gn:=R;have gt:=V;have io:=S;refine WW ?_;clear ga ge gn gt io)
   rfl
  .obtain rfl:i=0:=by omega
   clear L z;generalize l.getD 0 dd=t at*
   (have ga:=M;have ge:=O;have gn:=R;have gt:=V;have io:=S;refine WW ?_;clear ga ge gn gt io)
   rfl
 .exact ly
def GX (n:Int) (i:Nat):Int:=IntKind.u8.wrap (BitVec.ofInt IntKind.u8.bits (IntKind.u8.wrap ((IntKind.u64.wrap n).fdiv (2 ^ (min (8*(i:Int)).toNat IntKind.u64.bits)))) ^^^ BitVec.ofInt IntKind.u8.bits (29*(i:Int)+7)).toNat
def cL (n:Int):List Int:=(pb 8).map (GX n)
def cE (n:Int):xO prog 35 [iA n] [] (zE yA (cL n)) []:=by
 have L:∀i:Nat,((pb i).map (GX n)).map yA=((pb i).map (GX n)).map yA:=λ_=>rfl
 (refine eM call35 λF hF=>?_)
 (repeat' (first|refine aM ?_|refine yW (λhc=>?_) λhc=>?_|fail))
 refine zQ 3 1001 1 Z Z Z ?_
 refine wP (λk st=>∃i:Nat,k+i=8/\st=⟨[(0,iA n),(3,.ref 1001 0 (((pb i).map (GX n)).map yA).length),(5,iA i)],[(1001,.arr 1 (((pb i).map (GX n)).map yA) true)]⟩)
  8 [1001] [0,3,5] Z ⟨0,rfl,rfl⟩ ?_
 rintro k st ⟨i,hi,rfl⟩;by_cases u:i<8
 .have z:((pb (i+1)).map (GX n)).map yA=((pb i).map (GX n)).map yA++[yA (GX n i)]:=by rw[zCs];simp
  have I:((pb i).map (GX n)).length=i:=by simp
  (repeat' (first|refine aM ?_|refine yW (λhc=>?_) λhc=>?_|fail))
  exact⟨k-1,by omega,i+1,by omega,by rw[z];rfl⟩
 .obtain rfl:i=8:=by omega
  (repeat' (first|refine aM ?_|refine yW (λhc=>?_) λhc=>?_|fail))
  exact zH [] Z Z (zBb (AV.sl false) zAt) Z
def Ir (d:Dk):Dk:=ad (ad (ad (ad (ad (ad (ad d))))))
def Xn (d:Dk) (z u:Int):Ag:=⟨cL (1000+z),u,3,[1+nx d (3-1+1),1+nx (ad d) (3-1+1),nx (ad (ad d)) 3,nx (ad (ad (ad d))) 3],1+nx (ad (ad (ad (ad d)))) (3-1+1),1+nx (ad (ad (ad (ad (ad d))))) (2-1+1),
 1+nx (ad (ad (ad (ad (ad (ad d)))))) (3-1+1),1+nx (ad (ad (ad (ad (ad (ad d)))))) (3-1+1)+nx (Ir d) 5⟩
def Wn (d:Dk) (z u:Int) (h0:0<=z) (h1:z<=1000):xO prog 92 [.ptr 1000 0 0,iA z,iA u] [(1000,eE d)] (uI (Xn d z u)) [(1000,eE (ad (Ir d)))]:=by
 have hb:=yQ (ad (ad (ad (ad (ad (ad d)))))) (3-1+1) (by omega);have L:=yQ (Ir d) 5 (by omega);have I:=cE (1000+z);unfold Xn Ir at *;generalize cL (1000+z)=M at*
 (refine eM call92 λF hF=>?_)
 (repeat' (first|refine aM ?_|refine yW (λhc=>?_) λhc=>?_|(apply zG;apply xP;(first|(refine vG 35 ?_;first|refine wM (zL (I) Z Z Z Z Z) Z ?_|refine uU (zL (I) Z Z Z Z Z) Z Z Z ?_|refine aF (zL (I) Z Z Z Z Z) Z Z Z ?_)|(refine vG 68 ?_;first|refine wM (zL (jO _ _ _ (by omega) (by omega) (by omega)) Z Z Z Z Z) Z ?_|refine uU (zL (jO _ _ _ (by omega) (by omega) (by omega)) Z Z Z Z Z) Z Z Z ?_|refine aF (zL (jO _ _ _ (by omega) (by omega) (by omega)) Z Z Z Z Z) Z Z Z ?_)|(refine vG 16 ?_;first|refine wM (zL (yT _ _ (by omega) (by omega)) Z Z Z Z Z) Z ?_|refine uU (zL (yT _ _ (by omega) (by omega)) Z Z Z Z Z) Z Z Z ?_|refine aF (zL (yT _ _ (by omega) (by omega)) Z Z Z Z Z) Z Z Z ?_)))|fail))
 exact zP [1000] Z Z Z Z
