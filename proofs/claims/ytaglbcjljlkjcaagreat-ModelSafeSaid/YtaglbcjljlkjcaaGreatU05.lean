/- Part 5. -/
import Derived.Test.YtaglbcjljlkjcaaGreatU04
namespace Go.Proofs.YtaglbcjljlkjcaaGreat.Av
open Tryz
set_option linter.all false
set_option maxRecDepth 4000
set_option maxHeartbeats 2000000
open List renaming length->ln,range->pi,take->py,getD->p5
open Inhabited renaming default->dd
variable {r:AV}{h0 h1:List (Nat×xW)}{n:Nat}{A B C D E F G Y a b c d p q:Prop}{α:Type}
def Lp(a:A)(b:B)(c:C)(h:p=(A/\B/\C):=by conv=>lhs;whnf):p:=by(rw[h];exact⟨a,b,c⟩)
def Lq(b:B)(c:C)(h:p=(A/\B/\C):=by conv=>lhs;whnf)(a:A:=by rfl):p:=by(rw[h];exact⟨a,b,c⟩)
structure aX (q:Prop):Prop where
 h:q
structure Su (n:Nat) (K ts:List Nat):Prop where
def I2 (x:a) (y:b):a/\b:=⟨x,y⟩
def I4 (x:a) (y:b) (z:c) (u:d):a/\b/\c/\d:=⟨x,y,z,u⟩
def I5 {e:Prop} (x:a) (y:b) (z:c) (u:d) (v:e):a/\b/\c/\d/\e:=⟨x,y,z,u,v⟩
def I6 {e f:Prop} (x:a) (y:b) (z:c) (u:d) (v:e) (w:f):a/\b/\c/\d/\e/\f:=⟨x,y,z,u,v,w⟩
section
variable {P:Program} {K0:List Nat} {F:Fr K0} {m:Nat} {ops:Array Oper} {rest:List Oper} {Q:List FP->St->Prop} {dr:Bool} {fs:List FP} {ty t:Nat} {pos:String} {after:Array Edge} {st:St}
def L1 {u:List AV} (_:xO P n u h0 r h1) {z:Array Operand} {I:Array Nat} (hk:yN P F m ops dr (⟨some t,.call ⟨.value (.func n),z,I⟩,ty,pos,after,none⟩::rest) st fs Q):yN P F m ops dr (⟨some t,.call ⟨.value (.func n),z,I⟩,ty,pos,after,none⟩::rest) st fs Q:=hk
def Gc {K I:List Nat} (_:Su n K I) {u:Array Operand} {z:Array Nat} (hk:yN P F m ops dr (⟨some t,.call ⟨.value (.func n),u,z⟩,ty,pos,after,none⟩::rest) st fs Q):yN P F m ops dr (⟨some t,.call ⟨.value (.func n),u,z⟩,ty,pos,after,none⟩::rest) st fs Q:=hk
def MN {z:List (Nat×AV)} {h:List (Nat×xW)} {Q:List FP->St->Prop} {K u:List Nat} (_:Su n K u) (I:K0.all (K.contains ·)=true) (h1:hG K (zD h) z u λT=>jU K (zD h) K λU=>yN P F m ops false rest ⟨T,U⟩ fs Q):yN P F m ops false rest ⟨z,h⟩ fs Q:=vV K u I h1
end
def CC (k:q) (h:aX q->p:=by(intro ge;(((first|refine L1 zc ?_|refine Nf ?_);first|refine wM (zL (zc) Z Z Z Z Z) Z ?_|refine uT (zL (zc) Z Z Z Z Z) Z Z Z ?_|refine aI (zL (zc) Z Z Z Z Z) Z Z Z ?_|refine wM (jL (zc) Z Z Z Z Z) Z ?_|refine uT (jL (zc) Z Z Z Z Z) Z Z Z ?_));exact ge.h)):p:=h ⟨k⟩
theorem PT (k:q) (h:aX q->p:=by(intro ge;(first|refine uM tok Z Z ?_|(refine NF ?_;first|refine K9 Z Z ?_|refine L6 Z Z Z Z ?_)|(refine wY ?_;first|refine wM (jh Z Z Z (by unfold Gk;omega)) Z ?_|refine wM (fh Z Z Z (by unfold Gk;omega)) Z ?_|refine wM (bt Z Z Z) Z ?_|refine wM (PJ Z Z ⟨by omega,by omega⟩) Z ?_|refine wM (rt Z Z ⟨by omega,by omega⟩) Z ?_|refine wM (PK Z Z ⟨by omega,by omega⟩) Z ?_|refine wM (Zt Z Z (by assumption) (by omega)) Z ?_|refine wM (Yt Z Z (by omega)) Z ?_|refine wM (Xt Z Z) Z ?_|refine wM (Cn Z Z (by omega)) Z ?_|refine wM (Bn Z Z (by omega)) Z ?_|refine wM (YU (.inl ⟨rfl,rfl⟩) Z Z (by omega)) Z ?_|refine wM (YU (.inr ⟨rfl,rfl⟩) Z Z (by omega)) Z ?_|refine wM (JO tok Z Z Z Z (.inl ⟨rfl,rfl⟩)) Z ?_|refine wM (JO tok Z Z Z Z (.inr ⟨rfl,rfl⟩)) Z ?_|refine wM (Gb tok (.inl ⟨rfl,rfl⟩) Z Z Z) Z ?_|refine wM (xY tok (.inl ⟨rfl,rfl⟩) Z Z Z Z) Z ?_|refine wM (Kn Z Z) Z ?_|refine wM (aQ Z Z) Z ?_|refine wM (Hn Z Z) Z ?_|refine wM (Ac Z Z (by assumption)) Z ?_|refine wM (IG Z Z) Z ?_|refine wM (yd Z Z (by assumption)) Z ?_|refine wM (IH Z Z) Z ?_)|(refine Vz ?_;first|refine wM (SU tok Z Z Z Z Z (by omega) WA Z Z) Z ?_|refine wM (SP tok Z Z Z Z Z Z (by omega) (by omega) Z) Z ?_|refine wM (UQ tok Z Z Z Z Z Z (by omega) (by omega)) Z ?_)|(refine ct ?_;first|refine wM (HM tok Z Z Z WA Z) Z ?_|refine wM (HL tok Z Z Z WA Z) Z ?_|refine wM (KB tok Z Z Z Z WA Z) Z ?_|refine wM (KA tok Z Z Z Z WA Z) Z ?_)|(refine Uz ?_;first|refine wM (UO tok Z Z Z Z Z Z Z Z) Z ?_|refine wM (ST tok Z WA Z Z Z Z Z Z) Z ?_)|(refine yC ?_;first|refine vB tok Z Z Z Z Z Z Z (by first|(intro y u;cases u;rfl)|exact yM _ _ (λ_=>rfl)) Z Z Z (by first|omega|(simp;done)|(simp;omega)) Z ?_|refine jF tok Z Z Z Z Z Z Z Z Z Z Z (by first|(intro y u;cases u;rfl)|exact yM _ _ (λ_=>rfl)) (by first|omega|(simp;done)|(simp;omega)) Z ?_)|(refine Fk ?_;first|refine wM (Vt Z ⟨by omega,by omega⟩) Z ?_)|(refine ot ?_;first|refine wM (DV tok Z Z Z Z ⟨by omega,by omega⟩) Z ?_|refine wM (CJ tok Z Z Z Z) Z ?_|refine wM (AM tok Z Z Z Z Z Z Z WA) Z ?_)|(refine gY ?_;first|refine FD tok Z Z Z Z Z (by first|(intro y u;cases u;rfl)|exact yM _ _ (λ_=>rfl)|assumption|(simp;done)) (by omega) qB (by first|exact zDo.symm|rfl) Z ?_|refine V2 tok Z Z Z Z Z (by first|(intro y u;cases u;rfl)|exact yM _ _ (λ_=>rfl)|assumption|(simp;done)) (by omega) qB (by first|exact zD7.symm|rfl) Z ?_|refine Nu tok Z Z Z Z Z Z (by first|(intro y u;cases u;rfl)|exact yM _ _ (λ_=>rfl)|assumption|(simp;done)) (by omega) (by omega) (by first|omega|(simp;omega)) (by first|assumption|rfl) Z ?_));exact ge.h)):p:=h ⟨k⟩
def SB (k:q) (h:aX q->p:=by(intro ge;refine zG ?_;(first|(refine Qn ?_;refine wM (bM Z Z Z) Z ?_)|refine YT tok Z Z Z Z ?_|(refine dX ?_;first|refine S2 tok Z Z Z Z Z Z ?_|refine cQ tok Z Z Z ?_|refine Pn tok Z Z Z WA Z Z Z Z Z Z ?_|refine Dc tok Z Z Z WA Z Z Z Z Z Z Z Z ?_)|refine kQ ?_|refine WU NI ?_);exact ge.h)):p:=h ⟨k⟩
def SC (k:q) (h:aX q->p:=by(intro ge;((first|(refine Gc kj ?_;refine MN kj Z ?_;(conv=>whnf);(try simp only[zBf,zAv]))|(refine Gc zf2 ?_;refine MN zf2 Z ?_;(conv=>whnf);(try simp only[zBf,zAv]))|(refine Gc zf3 ?_;refine MN zf3 Z ?_;(conv=>whnf);(try simp only[zBf,zAv]))|skip);first|(have zc:=gd;refine CC ?_;clear zc)|(have zc:=gn;refine CC ?_;clear zc)|(have zc:=gt;refine CC ?_;clear zc)|(have zc:=gv;refine CC ?_;clear zc)|(have zc:=io;refine CC ?_;clear zc)|(have zc:=la;refine CC ?_;clear zc)|(have zc:=lk;refine CC ?_;clear zc)|(have zc:=lp;refine CC ?_;clear zc)|(have zc:=ly;refine CC ?_;clear zc)|(have zc:=zc10;refine CC ?_;clear zc)|(have zc:=zc11;refine CC ?_;clear zc)|(have zc:=zc12;refine CC ?_;clear zc)|(have zc:=zc13;refine CC ?_;clear zc)|(have zc:=zc14;refine CC ?_;clear zc)|(have zc:=zc15;refine CC ?_;clear zc)|(have zc:=zc16;refine CC ?_;clear zc)|fail);exact ge.h)):p:=h ⟨k⟩
def WZ (k:q) (h:aX q->p:=by(intro ge;(repeat1' (first|(refine zG ?_;first|refine PT ?_|(refine xP ?_;refine SC ?_)|refine SB ?_)|refine xX ?_|refine xT ?_|refine xJ ?_|refine xS ?_));exact ge.h)):p:=h ⟨k⟩
def WS (k:q) (h:aX q->p:=by(intro ge;(repeat1' (first|(refine zG ?_;first|refine PT ?_|(refine xP ?_;refine SC ?_)|refine SB ?_)));exact ge.h)):p:=h ⟨k⟩
def WV (k:q) (h:aX q->p:=by(intro ge;(repeat1' (first|(refine zG ?_;first|refine PT ?_|(refine xP ?_;refine SC ?_)|((fail_if_success refine yH ?_);refine SB ?_))));exact ge.h)):p:=h ⟨k⟩
def WY (k:q) (h:aX q->p:=by(intro ge;(repeat1' (first|(refine zG ?_;first|refine PT ?_|(refine xP ?_;refine SC ?_)|((fail_if_success refine yH ?_);refine SB ?_))|refine xX ?_|refine xT ?_|refine xJ ?_|refine xS ?_));exact ge.h)):p:=h ⟨k⟩
def WT (k:q) (h:aX q->p:=by(intro ge;(repeat1' (first|(refine zG ?_;first|refine PT ?_|(refine xP ?_;refine SC ?_)|((fail_if_success refine dX ?_);refine SB ?_))|refine xX ?_|refine xT ?_|refine xJ ?_|refine xS ?_));exact ge.h)):p:=h ⟨k⟩
def SG (k:q) (h:aX q->p:=by(intro ge;refine zG ?_;refine NF ?_;((refine UL Z Z (λlf=>?_) λlf=>?_)<;>(try simp only[uB,zAz,zA6,zB8,zCy,zDz,zEf,zBn,zB5,zFe,zFd,zEk]at lf));(all_goals (repeat revert lf));first|done|(exact ge.h;done)|(exact ge.h.1;exact ge.h.2;done)|(exact ge.h.1;exact ge.h.2.1;exact ge.h.2.2;done)|(exact ge.h.1;exact ge.h.2.1;exact ge.h.2.2.1;exact ge.h.2.2.2;done)|(exact ge.h.1;exact ge.h.2.1;exact ge.h.2.2.1;exact ge.h.2.2.2.1;exact ge.h.2.2.2.2;done)|(exact ge.h.1;exact ge.h.2.1;exact ge.h.2.2.1;exact ge.h.2.2.2.1;exact ge.h.2.2.2.2.1;exact ge.h.2.2.2.2.2;done))):p:=h ⟨k⟩
def SK (k:q) (h:aX q->p:=by(intro ge;((refine xZ Z (λlf=>?_) λlf=>?_)<;>(try simp only[uB,zAz,zA6,zB8,zCy,zDz,zEf,zBn,zB5,zFe,zFd,zEk]at lf));(all_goals (repeat revert lf));first|done|(exact ge.h;done)|(exact ge.h.1;exact ge.h.2;done)|(exact ge.h.1;exact ge.h.2.1;exact ge.h.2.2;done)|(exact ge.h.1;exact ge.h.2.1;exact ge.h.2.2.1;exact ge.h.2.2.2;done)|(exact ge.h.1;exact ge.h.2.1;exact ge.h.2.2.1;exact ge.h.2.2.2.1;exact ge.h.2.2.2.2;done)|(exact ge.h.1;exact ge.h.2.1;exact ge.h.2.2.1;exact ge.h.2.2.2.1;exact ge.h.2.2.2.2.1;exact ge.h.2.2.2.2.2;done))):p:=h ⟨k⟩
def SM (k:q) (h:aX q->p:=by(intro ge;((refine fQ ?_;refine We tok Z Z Z Z Z Z Z Z Z Z Z Z Z (by omega) (by omega) Z Z Z ?_));exact ge.h)):p:=h ⟨k⟩
def SL (k:q) (h:aX q->p:=by(intro ge;(first|(refine yH ?_;refine vD tok Z Z ?_)|(refine yC ?_;refine kZ tok Z Z Z Z Z Z (by first|(intro y u;cases u;rfl)|exact yM _ _ (λ_=>rfl)) Z Z Z (by first|omega|(simp;done)|(simp;omega)) Z ?_));exact ge.h)):p:=h ⟨k⟩
def SR (k:q) (h:aX q->p:=by(intro ge;(first|refine xX ?_|refine xT ?_|refine vZ Z ?_|refine yS Z ?_|refine yD Z ?_|refine xJ ?_|refine xL ?_|refine xS ?_|refine xB ?_);exact ge.h)):p:=h ⟨k⟩
def SX (k:q) (h:aX q->p:=by(intro ge;(first|refine xX ?_|refine xT ?_|refine yS Z ?_|refine yD Z ?_|refine xJ ?_|refine xL ?_|refine xS ?_);exact ge.h)):p:=h ⟨k⟩
def SN (k:q) (h:aX q->p:=by(intro ge;(first|refine xX ?_|refine xT ?_|refine vZ Z ?_|refine yS Z ?_|refine yD Z ?_|refine xJ ?_|refine xS ?_|refine xB ?_);exact ge.h)):p:=h ⟨k⟩
def SQ (k:q) (h:aX q->p:=by(intro ge;(first|refine xX ?_|refine xT ?_|refine vZ Z ?_|refine xJ ?_|refine xL ?_|refine xS ?_);exact ge.h)):p:=h ⟨k⟩
def SV (k:q) (h:aX q->p:=by(intro ge;(first|refine xX ?_|refine xT ?_|refine vZ Z ?_|refine yS Z ?_|refine yD Z ?_|refine xJ ?_|refine xL ?_|refine xS ?_);exact ge.h)):p:=h ⟨k⟩
structure One (a:Prop):Prop where
 x:a
structure n7 (a b:Prop):Prop where
 x:a
 y:b
def xH (x:a):One a:=⟨x⟩
def yW (x:a) (y:b):n7 a b:=⟨x,y⟩
def YG (k:n7 a b) (h:a->b->p:=by(intro mt zy8;refine zG ?_;refine NF ?_;((refine UL Z Z (λlf=>?_) λlf=>?_)<;>(try simp only[uB,zAz,zA6,zB8,zCy,zDz,zEf,zBn,zB5,zFe,zFd,zEk]at lf));(all_goals (repeat revert lf));exact mt;exact zy8)):p:=h k.x k.y
def Ax (k:One a) (h:a->p:=by(intro mt;refine zG ?_;refine NF ?_;((refine UL Z Z (λlf=>?_) λlf=>?_)<;>(try simp only[uB,zAz,zA6,zB8,zCy,zDz,zEf,zBn,zB5,zFe,zFd,zEk]at lf));(all_goals (repeat revert lf));exact mt)):p:=h k.x
def YK (k:n7 a b) (h:a->b->p:=by(intro mt zy8;((refine xZ Z (λlf=>?_) λlf=>?_)<;>(try simp only[uB,zAz,zA6,zB8,zCy,zDz,zEf,zBn,zB5,zFe,zFd,zEk]at lf));(all_goals (repeat revert lf));exact mt;exact zy8)):p:=h k.x k.y
def m7 (k:One a) (h:a->p:=by(intro mt;((refine xZ Z (λlf=>?_) λlf=>?_)<;>(try simp only[uB,zAz,zA6,zB8,zCy,zDz,zEf,zBn,zB5,zFe,zFd,zEk]at lf));(all_goals (repeat revert lf));exact mt)):p:=h k.x
def YG0 (k:n7 a b) (h:a->b->p:=by(intro mt zy8;refine zG ?_;refine NF ?_;refine UL Z Z (λlf=>?_) λlf=>?_;(all_goals (repeat revert lf));exact mt;exact zy8)):p:=h k.x k.y
def YK0 (k:n7 a b) (h:a->b->p:=by(intro mt zy8;refine xZ Z (λlf=>?_) λlf=>?_;(all_goals (repeat revert lf));exact mt;exact zy8)):p:=h k.x k.y
def uS (k:q) (h:aX q->p:=by(intro ge;(first|refine WZ ?_|refine YG ?_|refine Ax ?_|refine SR ?_|refine YK ?_|refine m7 ?_);exact ge.h)):p:=h ⟨k⟩
def J1 (k:q) (h:aX q->p:=by(intro ge;(first|refine WZ ?_|refine YG ?_|refine Ax ?_|refine SX ?_);exact ge.h)):p:=h ⟨k⟩
def Xf (k:q) (h:aX q->p:=by(intro ge;(first|refine WZ ?_|refine YG ?_|refine Ax ?_|refine SN ?_|refine YK ?_|refine m7 ?_);exact ge.h)):p:=h ⟨k⟩
def ub (k:q) (h:aX q->p:=by(intro ge;(first|refine WZ ?_|refine YG ?_|refine Ax ?_|refine SQ ?_);exact ge.h)):p:=h ⟨k⟩
def f9 (k:q) (h:aX q->p:=by(intro ge;(first|refine WZ ?_|refine YG ?_|refine Ax ?_|refine SV ?_|refine YK ?_|refine m7 ?_);exact ge.h)):p:=h ⟨k⟩
def jZ (k:q) (h:aX q->p:=by(intro ge;(first|refine WY ?_|refine YG ?_|refine Ax ?_|refine SR ?_|refine YK ?_|refine m7 ?_);exact ge.h)):p:=h ⟨k⟩
def WYX (k:q) (h:aX q->p:=by(intro ge;(first|refine WY ?_|refine YG ?_|refine Ax ?_|refine SX ?_);exact ge.h)):p:=h ⟨k⟩
def WTR (k:q) (h:aX q->p:=by(intro ge;(first|refine WT ?_|refine YG ?_|refine Ax ?_|refine SR ?_|refine YK ?_|refine m7 ?_);exact ge.h)):p:=h ⟨k⟩
def aP (k:q) (h:aX q->p:=by(intro ge;(first|refine WZ ?_|refine YG0 ?_|refine SR ?_|refine YK0 ?_);exact ge.h)):p:=h ⟨k⟩
def WW (k:q) (h:aX q->p:=by(intro ge;(repeat' (first|refine WZ ?_|refine SG (I2 (λic=>?_) λic=>?_)|refine SG λic=>?_|(refine zG ?_;refine SM ?_)|refine SR ?_|refine SK (I2 (λic=>?_) λic=>?_)|refine SK λic=>?_|fail));(all_goals (repeat revert ic));first|done|(exact ge.h;done)|(exact ge.h.1;exact ge.h.2;done)|(exact ge.h.1;exact ge.h.2.1;exact ge.h.2.2;done)|(exact ge.h.1;exact ge.h.2.1;exact ge.h.2.2.1;exact ge.h.2.2.2;done)|(exact ge.h.1;exact ge.h.2.1;exact ge.h.2.2.1;exact ge.h.2.2.2.1;exact ge.h.2.2.2.2;done)|(exact ge.h.1;exact ge.h.2.1;exact ge.h.2.2.1;exact ge.h.2.2.2.1;exact ge.h.2.2.2.2.1;exact ge.h.2.2.2.2.2;done))):p:=h ⟨k⟩
def WL (k:q) (h:aX q->p:=by(intro ge;(repeat' (first|refine WY ?_|refine SG (I2 (λic=>?_) λic=>?_)|refine SG λic=>?_|(refine zG ?_;first|refine SL ?_|refine SM ?_)|refine SB ?_|refine SR ?_|refine SK (I2 (λic=>?_) λic=>?_)|refine SK λic=>?_|fail));(all_goals (repeat revert ic));first|done|(exact ge.h;done)|(exact ge.h.1;exact ge.h.2;done)|(exact ge.h.1;exact ge.h.2.1;exact ge.h.2.2;done)|(exact ge.h.1;exact ge.h.2.1;exact ge.h.2.2.1;exact ge.h.2.2.2;done)|(exact ge.h.1;exact ge.h.2.1;exact ge.h.2.2.1;exact ge.h.2.2.2.1;exact ge.h.2.2.2.2;done)|(exact ge.h.1;exact ge.h.2.1;exact ge.h.2.2.1;exact ge.h.2.2.2.1;exact ge.h.2.2.2.2.1;exact ge.h.2.2.2.2.2;done))):p:=h ⟨k⟩
def WD (k:q) (h:aX q->p:=by(intro ge;(repeat' (first|refine WZ ?_|refine SG (I2 (λic=>?_) λic=>?_)|refine SG λic=>?_|(refine zG ?_;refine SM ?_)|refine SX ?_|fail));(all_goals (repeat revert ic));first|done|(exact ge.h;done)|(exact ge.h.1;exact ge.h.2;done)|(exact ge.h.1;exact ge.h.2.1;exact ge.h.2.2;done)|(exact ge.h.1;exact ge.h.2.1;exact ge.h.2.2.1;exact ge.h.2.2.2;done)|(exact ge.h.1;exact ge.h.2.1;exact ge.h.2.2.1;exact ge.h.2.2.2.1;exact ge.h.2.2.2.2;done)|(exact ge.h.1;exact ge.h.2.1;exact ge.h.2.2.1;exact ge.h.2.2.2.1;exact ge.h.2.2.2.2.1;exact ge.h.2.2.2.2.2;done))):p:=h ⟨k⟩
def eN {f:Nat} {fn:Func} {body:Code} {args:List AV} (O:prog.funcs[f]? =some fn) (u:bJ prog f) (h:∀F:Fr (xC h0),F.ro=none/\F.it=false->uE prog F fn.ntmps body ⟨UE 0 args,h0⟩ (Fin TT fn.results.toList h0 r h1)) (hb:fn.body=some body:=by exact Z) (z:Nat.ble (ln args) fn.ntmps=true:=by exact Z) (M:vX h0=true:=by exact Z) (I:vX h1=true:=by exact Z) (L:Nat.ble fn.ntmps GS=true:=by rfl):xO prog f args h0 r h1:=WQ tok O hb u z M I h L
def zH {TT:List TI} {u:List ResultVar} {st:St} {vs:List AV} (h:LZ TT st u=some vs:=by exact Z) (z:(xC h0).all (([]:List Nat).contains ·)=true:=by exact Z) (I:ZD (wW [] (zD st.h) (DS vs))=r:=by exact Z) (hh:wX [] (zD st.h)=h1:=by exact Z):Fin TT u h0 r h1 .ret st:=zI [] h z I hh
def nm{p:Prop}(h:p:=by(refine WL ?_;exact zH)):p:=h
def mx{p:Prop}(h:p:=by(refine WW ?_;exact zH)):p:=h
structure zT2 (A B:Prop):Prop where
  mk::(a1:A) (b1:B)
def xQ (u:A) (z:B):zT2 A B:=⟨u,z⟩
def ze2 (z:zT2 A B) (h:A->B->p):p:=h z.a1 z.b1
structure zT3 (A B C:Prop):Prop where
  mk::(a1:A) (b1:B) (c1:C)
def qC (u:A) (z:B) (I:C):zT3 A B C:=⟨u,z,I⟩
def ze3 (z:zT3 A B C) (h:A->B->C->p):p:=h z.a1 z.b1 z.c1
structure zT4 (A B C D:Prop):Prop where
  mk::(a1:A) (b1:B) (c1:C) (d1:D)
def cI (u:A) (z:B) (I:C) (L:D):zT4 A B C D:=⟨u,z,I,L⟩
def ze4 (z:zT4 A B C D) (h:A->B->C->D->p):p:=h z.a1 z.b1 z.c1 z.d1
structure zT5 (A B C D E:Prop):Prop where
  mk::(a1:A) (b1:B) (c1:C) (d1:D) (e1:E)
def MO (u:A) (z:B) (I:C) (L:D) (e1:E):zT5 A B C D E:=⟨u,z,I,L,e1⟩
def ze5 (z:zT5 A B C D E) (h:A->B->C->D->E->p):p:=h z.a1 z.b1 z.c1 z.d1 z.e1
structure zT6 (A B C D E F:Prop):Prop where
  mk::(a1:A) (b1:B) (c1:C) (d1:D) (e1:E) (f1:F)
def qb (u:A) (z:B) (I:C) (L:D) (e1:E) (M:F):zT6 A B C D E F:=⟨u,z,I,L,e1,M⟩
def ze6 (z:zT6 A B C D E F) (h:A->B->C->D->E->F->p):p:=h z.a1 z.b1 z.c1 z.d1 z.e1 z.f1
structure zT7 (A B C D E F G:Prop):Prop where
  mk::(a1:A) (b1:B) (c1:C) (d1:D) (e1:E) (f1:F) (g1:G)
def zy (u:A) (z:B) (I:C) (L:D) (e1:E) (M:F) (O:G):zT7 A B C D E F G:=⟨u,z,I,L,e1,M,O⟩
def ze7 (z:zT7 A B C D E F G) (h:A->B->C->D->E->F->G->p):p:=h z.a1 z.b1 z.c1 z.d1 z.e1 z.f1 z.g1
structure zT8 (A B C D E F G H:Prop):Prop where
  mk::(a1:A) (b1:B) (c1:C) (d1:D) (e1:E) (f1:F) (g1:G) (h1:H)
def yy {H:Prop} (u:A) (z:B) (I:C) (L:D) (e1:E) (M:F) (O:G) (h1:H):zT8 A B C D E F G H:=⟨u,z,I,L,e1,M,O,h1⟩
def ze8 {H:Prop} (z:zT8 A B C D E F G H) (h:A->B->C->D->E->F->G->H->p):p:=h z.a1 z.b1 z.c1 z.d1 z.e1 z.f1 z.g1 z.h1
def yF (lb:Y) (k:q) (h:Y->aX q->p:=by(intro lb ge;(first|refine ze2 lb (λgd gn=>?_)|refine ze3 lb (λgd gn gt=>?_)|refine ze4 lb (λgd gn gt gv=>?_)|refine ze5 lb (λgd gn gt gv io=>?_)|refine ze6 lb (λgd gn gt gv io la=>?_)|refine ze7 lb (λgd gn gt gv io la lk=>?_)|refine ze8 lb (λgd gn gt gv io la lk lp=>?_));(repeat' (first|refine WZ ?_|refine SG (I2 (λic=>?_) λic=>?_)|refine SG λic=>?_|(refine zG ?_;refine SM ?_)|refine SR ?_|refine SK (I2 (λic=>?_) λic=>?_)|refine SK λic=>?_|fail));(all_goals (repeat revert ic));first|done|(exact ge.h;done)|(exact ge.h.1;exact ge.h.2;done)|(exact ge.h.1;exact ge.h.2.1;exact ge.h.2.2;done)|(exact ge.h.1;exact ge.h.2.1;exact ge.h.2.2.1;exact ge.h.2.2.2;done)|(exact ge.h.1;exact ge.h.2.1;exact ge.h.2.2.1;exact ge.h.2.2.2.1;exact ge.h.2.2.2.2;done)|(exact ge.h.1;exact ge.h.2.1;exact ge.h.2.2.1;exact ge.h.2.2.2.1;exact ge.h.2.2.2.2.1;exact ge.h.2.2.2.2.2;done))):p:=h lb ⟨k⟩
def ng{Y p:Prop}(k:Y)(h:Y->p:=by(intro k;refine yF k ?_;exact zH)):p:=h k
def zS (lb:Y) (k:q) (h:Y->aX q->p:=by(intro gd ge;(repeat' (first|refine WZ ?_|refine SG (I2 (λic=>?_) λic=>?_)|refine SG λic=>?_|(refine zG ?_;refine SM ?_)|refine SR ?_|refine SK (I2 (λic=>?_) λic=>?_)|refine SK λic=>?_|fail));(all_goals (repeat revert ic));first|done|(exact ge.h;done)|(exact ge.h.1;exact ge.h.2;done)|(exact ge.h.1;exact ge.h.2.1;exact ge.h.2.2;done)|(exact ge.h.1;exact ge.h.2.1;exact ge.h.2.2.1;exact ge.h.2.2.2;done)|(exact ge.h.1;exact ge.h.2.1;exact ge.h.2.2.1;exact ge.h.2.2.2.1;exact ge.h.2.2.2.2;done)|(exact ge.h.1;exact ge.h.2.1;exact ge.h.2.2.1;exact ge.h.2.2.2.1;exact ge.h.2.2.2.2.1;exact ge.h.2.2.2.2.2;done))):p:=h lb ⟨k⟩
def nl{Y p:Prop}(k:Y)(h:Y->p:=by(intro k;refine zS k ?_;exact zH)):p:=h k
def RH (lb:Y) (k:q) (h:Y->aX q->p:=by(intro lb ge;(first|refine ze2 lb (λgd gn=>?_)|refine ze3 lb (λgd gn gt=>?_)|refine ze4 lb (λgd gn gt gv=>?_)|refine ze5 lb (λgd gn gt gv io=>?_)|refine ze6 lb (λgd gn gt gv io la=>?_)|refine ze7 lb (λgd gn gt gv io la lk=>?_)|refine ze8 lb (λgd gn gt gv io la lk lp=>?_));(repeat' (first|refine WY ?_|refine SG (I2 (λic=>?_) λic=>?_)|refine SG λic=>?_|(refine zG ?_;first|refine SL ?_|refine SM ?_)|refine SB ?_|refine SR ?_|refine SK (I2 (λic=>?_) λic=>?_)|refine SK λic=>?_|fail));(all_goals (repeat revert ic));first|done|(exact ge.h;done)|(exact ge.h.1;exact ge.h.2;done)|(exact ge.h.1;exact ge.h.2.1;exact ge.h.2.2;done)|(exact ge.h.1;exact ge.h.2.1;exact ge.h.2.2.1;exact ge.h.2.2.2;done)|(exact ge.h.1;exact ge.h.2.1;exact ge.h.2.2.1;exact ge.h.2.2.2.1;exact ge.h.2.2.2.2;done)|(exact ge.h.1;exact ge.h.2.1;exact ge.h.2.2.1;exact ge.h.2.2.2.1;exact ge.h.2.2.2.2.1;exact ge.h.2.2.2.2.2;done))):p:=h lb ⟨k⟩
def ny{Y p:Prop}(k:Y)(h:Y->p:=by(intro k;refine RH k ?_;exact zH)):p:=h k
def VX (lb:Y) (k:q) (h:Y->aX q->p:=by(intro gd ge;(repeat' (first|refine WY ?_|refine SG (I2 (λic=>?_) λic=>?_)|refine SG λic=>?_|(refine zG ?_;first|refine SL ?_|refine SM ?_)|refine SB ?_|refine SR ?_|refine SK (I2 (λic=>?_) λic=>?_)|refine SK λic=>?_|fail));(all_goals (repeat revert ic));first|done|(exact ge.h;done)|(exact ge.h.1;exact ge.h.2;done)|(exact ge.h.1;exact ge.h.2.1;exact ge.h.2.2;done)|(exact ge.h.1;exact ge.h.2.1;exact ge.h.2.2.1;exact ge.h.2.2.2;done)|(exact ge.h.1;exact ge.h.2.1;exact ge.h.2.2.1;exact ge.h.2.2.2.1;exact ge.h.2.2.2.2;done)|(exact ge.h.1;exact ge.h.2.1;exact ge.h.2.2.1;exact ge.h.2.2.2.1;exact ge.h.2.2.2.2.1;exact ge.h.2.2.2.2.2;done))):p:=h lb ⟨k⟩
def pb{Y p:Prop}(k:Y)(h:Y->p:=by(intro k;refine VX k ?_;exact zH)):p:=h k
def I1 (lb:Y) (k:q) (h:Y->aX q->p:=by(intro lb ge;(first|refine ze2 lb (λgd gn=>?_)|refine ze3 lb (λgd gn gt=>?_)|refine ze4 lb (λgd gn gt gv=>?_)|refine ze5 lb (λgd gn gt gv io=>?_)|refine ze6 lb (λgd gn gt gv io la=>?_)|refine ze7 lb (λgd gn gt gv io la lk=>?_)|refine ze8 lb (λgd gn gt gv io la lk lp=>?_));(repeat' (first|refine WZ ?_|refine SG (I2 (λic=>?_) λic=>?_)|refine SG λic=>?_|(refine zG ?_;refine SM ?_)|refine SX ?_|fail));(all_goals (repeat revert ic));first|done|(exact ge.h;done)|(exact ge.h.1;exact ge.h.2;done)|(exact ge.h.1;exact ge.h.2.1;exact ge.h.2.2;done)|(exact ge.h.1;exact ge.h.2.1;exact ge.h.2.2.1;exact ge.h.2.2.2;done)|(exact ge.h.1;exact ge.h.2.1;exact ge.h.2.2.1;exact ge.h.2.2.2.1;exact ge.h.2.2.2.2;done)|(exact ge.h.1;exact ge.h.2.1;exact ge.h.2.2.1;exact ge.h.2.2.2.1;exact ge.h.2.2.2.2.1;exact ge.h.2.2.2.2.2;done))):p:=h lb ⟨k⟩
def WDo (lb:Y) (k:q) (h:Y->aX q->p:=by(intro gd ge;(repeat' (first|refine WZ ?_|refine SG (I2 (λic=>?_) λic=>?_)|refine SG λic=>?_|(refine zG ?_;refine SM ?_)|refine SX ?_|fail));(all_goals (repeat revert ic));first|done|(exact ge.h;done)|(exact ge.h.1;exact ge.h.2;done)|(exact ge.h.1;exact ge.h.2.1;exact ge.h.2.2;done)|(exact ge.h.1;exact ge.h.2.1;exact ge.h.2.2.1;exact ge.h.2.2.2;done)|(exact ge.h.1;exact ge.h.2.1;exact ge.h.2.2.1;exact ge.h.2.2.2.1;exact ge.h.2.2.2.2;done)|(exact ge.h.1;exact ge.h.2.1;exact ge.h.2.2.1;exact ge.h.2.2.2.1;exact ge.h.2.2.2.2.1;exact ge.h.2.2.2.2.2;done))):p:=h lb ⟨k⟩
def eM {f:Nat} {fn:Func} {body:Code} {args:List AV} (u:bJ prog f) (h:∀F:Fr (xC h0),F.ro=none/\F.it=false->uE prog F fn.ntmps body ⟨UE 0 args,h0⟩ (Fin TT fn.results.toList h0 r h1)) (O:prog.funcs[f]? =some fn:=by exact Z) (hb:fn.body=some body:=by exact Z) (z:Nat.ble (ln args) fn.ntmps=true:=by exact Z) (M:vX h0=true:=by exact Z) (I:vX h1=true:=by exact Z) (L:Nat.ble fn.ntmps GS=true:=by rfl):xO prog f args h0 r h1:=eN O u h hb z M I L
abbrev zN:=xO prog
def OB (h:p:=by(apply vT;(exact zH);simp only[uB,zA6,zAz,zBn,zB5,zB8,zCy,zDz];omega)):p:=h
def MP (h:p:=by(exfalso;omega)):p:=h
def zB (h:p:=by omega):p:=h
def iA (n:Int):AV:= .s (.int .i64 n)
def yA (n:Int):AV:= .s (.int .u8 n)
def bA (b:Bool):AV:= .s (.bool b)
def zE (f:α->AV) (l:List α):AV:= .sl false (l.map f)
structure Cl where
 ag:Int
 id:Int
 ph:Int
 k:Int
 si:Int
structure Sv where
 ph:Int
 gr:Int
 en:List Int
structure Ph where
 ring:Int
 group:Int
 ming:Int
 maxg:Int
 yel:Int
 red:Int
 walk:Int
 clear:Int
structure Jn where
 ph:List Ph
 cf:List Int
 st:Int
structure Ag where
 sec:List Int
 rights:Int
 cls:Int
 lim:List Int
 req:Int
 ses:Int
 rate:Int
 burst:Int
structure Cf where
 js:List Jn
 ags:List Ag
 per:Int
 cap:Int
 hold:Int
 lock:Int
structure Tk where
 used:Bool
 sec:List Int
 par:Int
 rights:Int
 cls:Int
 til:Int
structure Vh where
 id:Int
 cls:Int
structure Bk where
 level:Int
 rate:Int
 burst:Int
structure Rg where
 num:Int
 ag:Ag
 tk:List Tk
 vh:List Vh
 bk:Bk
structure Ms where
 kind:Int
 tok:List Int
 args:List Int
 data:List Int
def kD (c:Cl):AV:= .agg [iA c.ag,iA c.id,iA c.ph,iA c.k,iA c.si]
def wP (s:Sv):AV:= .agg [iA s.ph,iA s.gr,zE iA s.en]
def xN (p:Ph):AV:= .agg [iA p.ring,iA p.group,iA p.ming,iA p.maxg,iA p.yel,iA p.red,iA p.walk,iA p.clear]
def wD (j:Jn):AV:= .agg [zE xN j.ph,zE iA j.cf,iA j.st]
def uF (a:Ag):AV:= .agg [zE yA a.sec,iA a.rights,iA a.cls,zE iA a.lim,iA a.req,iA a.ses,iA a.rate,iA a.burst]
def wH (c:Cf):AV:= .agg [zE wD c.js,zE uF c.ags,iA c.per,iA c.cap,iA c.hold,iA c.lock]
def yP (t:Tk):AV:= .agg [bA t.used,zE yA t.sec,iA t.par,iA t.rights,iA t.cls,iA t.til]
def vC (v:Vh):AV:= .agg [iA v.id,iA v.cls]
def lj (b:Bk):AV:= .agg [iA b.level,iA b.rate,iA b.burst]
def uQ (r:Rg):AV:= .agg [iA r.num,zE yA r.ag.sec,iA r.ag.rights,iA r.ag.cls,zE iA r.ag.lim,iA r.ag.req,iA r.ag.ses,iA r.ag.rate,iA r.ag.burst,zE yP r.tk,zE vC r.vh,iA r.bk.level,iA r.bk.rate,iA r.bk.burst]
def zX (m:Ms):AV:= .agg [iA m.kind,zE yA m.tok,zE iA m.args,zE yA m.data]
instance:Inhabited Tk:=⟨⟨false,[],-1,0,0,0⟩⟩
instance:Inhabited Vh:=⟨⟨0,0⟩⟩
instance:Inhabited Cl:=⟨⟨0,0,0,0,0⟩⟩
instance:Inhabited Ph:=⟨⟨0,0,0,0,0,0,0,0⟩⟩
instance:Inhabited Jn:=⟨⟨[],[],0⟩⟩
instance:Inhabited Ag:=⟨⟨[],0,0,[],0,0,0,0⟩⟩
def vT {TT:List TI} {z:List ResultVar} {e:Exit} {st:St} {b u:Bool} (h:Fin TT z h0 (bA u) h1 e st) (hb:u=b):Fin TT z h0 (bA b) h1 e st:=hb▸h
def zJ [Inhabited α] (f:α->AV) (l:List α) (i:Nat) (h:i<ln l):(l.map f)[i]? =some (f (l.getD i dd)):=by simp[List.getD,h]
def yE [Inhabited α] (f:α->AV) (l:List α) (i:Int) (h0:0<=i) (h:i<ln l):(l.map f)[i.toNat]? =some (f (l.getD i.toNat dd)):=zJ f l _ (by omega)
theorem Ru (v n:Int) (h1:1<=n): -n<v.tmod n/\v.tmod n<n/\v % n=if v.tmod n<0 then v.tmod n+n else v.tmod n:=by
 have u:=zD2 v (show n≠0 by omega);have e1:=zDk v (show 0<n by omega)
 grind [Int.tmod_eq_emod,Int.dvd_of_emod_eq_zero]
def Wf (v n:Int) (h1:1<=n) (h2:n<=1099511627776):xO prog 11 [iA v,iA n] [] (iA (v % n)) []:=by
 obtain⟨u,z,e⟩:=Ru v n h1;by_cases h:v.tmod n<0
 .rw[e,zAs h]
  (refine eM call11 λF hF=>?_)
  (repeat' (first|refine aP ?_|refine yW (λhc=>?_) λhc=>?_|fail))
  exact zH
 .rw[e,Os h]
  (refine eM call11 λF hF=>?_)
  (repeat' (first|refine aP ?_|refine yW (λhc=>?_) λhc=>?_|fail))
  exact zH
structure Dk where
 l:List Int
 a:Nat
 h:a<=l.length
 hl:l.length<=9223372036854775807
def fF (d:Dk):xW:= .box [zE iA d.l,iA d.a]
def nx (d:Dk) (n:Int):Int:=if d.a<ln d.l then d.l.getD d.a 0 % n else 0
def ad (d:Dk):Dk:=if h:d.a<ln d.l then⟨d.l,d.a+1,h,d.hl⟩else d
theorem yQ (d:Dk) (n:Int) (h1:1<=n):0<=nx d n/\nx d n<n:=by
 unfold nx;split
 .exact⟨zD2 _ (by omega),zDk _ (by omega)⟩
 .omega
def s7 (l:List Int) (hl:ln l<=9223372036854775807):xO prog 8 [zE iA l] [] (.ptr 1000 0 0) [(1000,fF ⟨l,0,zBb _,hl⟩)]:=by
 (refine eM call8 λF hF=>?_)
 repeat' (first|refine uM tok Z Z ?_|(first|apply xX|apply xT|refine vZ Z ?_|refine yS Z ?_|refine yD Z ?_|refine xZ Z (λhc=>?_) λhc=>?_|apply xJ|apply xL|apply xS|apply xB)|apply kQ|refine uT (dI (v:= .agg _) 1000 Z Z) Z Z Z ?_)
 exact zP [1000] Z Z Z Z
def yR (d:Dk) (n:Int) (h1:1<=n) (h2:n<=1099511627776):xO prog 16 [.ptr 1000 0 0,iA n] [(1000,fF d)] (iA (nx d n)) [(1000,fF (ad d))]:=by
 have hl:(d.l.map iA).length=ln d.l:=by simp
 have hb:=d.hl;by_cases h:d.a<ln d.l
 .have u:=yE iA d.l ((d.a:Int)+1-1) (by omega) (by omega);rw[show nx d n=d.l.getD ((d.a:Int)+1-1).toNat 0 % n by unfold nx;rw[zAs h,show((d.a:Int)+1-1).toNat=d.a by omega]];rw[show ad d=⟨d.l,d.a+1,h,d.hl⟩ by unfold ad;rw[zF3 h]]
  (refine eM call16 λF hF=>?_)
  (repeat' (first|refine aP ?_|refine yW (λhc=>?_) λhc=>?_|(apply zG;apply xP;refine wM (zL (Wf _ _ h1 h2) Z Z Z Z Z) Z ?_)|fail))
  exact zP [1000] Z Z Z Z
 .rw[show nx d n=0 by unfold nx;rw[Os h],show ad d=d by unfold ad;rw[dif_neg h]]
  (refine eM call16 λF hF=>?_)
  (repeat' (first|refine aP ?_|refine yW (λhc=>?_) λhc=>?_|(apply zG;apply xP;refine wM (zL (Wf _ _ h1 h2) Z Z Z Z Z) Z ?_)|fail))
  exact zP [1000] Z Z Z Z
def jP (d:Dk) (lo hi:Int) (h1:0<=lo) (h2:lo<=hi) (u:hi<=1000000000):xO prog 68 [.ptr 1000 0 0,iA lo,iA hi] [(1000,fF d)] (iA (lo+nx d (hi-lo+1))) [(1000,fF (ad d))]:=by
 have hb:=yQ d (hi-lo+1) (by omega)
 (refine eM call68 λF hF=>?_)
 (repeat' (first|refine aP ?_|refine yW (λhc=>?_) λhc=>?_|(apply zG;apply xP;refine uT (zL (yR d _ (by omega) (by omega)) Z Z Z Z Z) Z Z Z ?_)|fail))
 exact zP [1000] Z Z Z Z
structure Lg where
 jn:Int
 ph:Int
 fr:Int
 to:Int
 sc:Int
variable {post ga:List Lg}
structure Rq where
 id:Int
 vh:Int
 cls:Int
 til:Int
 legs:List Lg
instance:Inhabited Lg:=⟨⟨0,0,0,0,0⟩⟩
instance:Inhabited Rq:=⟨⟨0,0,0,0,[]⟩⟩
def yO (l:Lg):AV:= .agg [iA l.jn,iA l.ph,iA l.fr,iA l.to,iA l.sc]
def zY (r:Rq):AV:= .agg [iA r.id,iA r.vh,iA r.cls,iA r.til,zE yO r.legs]
def xy (j p:Int):Bool:=decide (0<=j/\j<4/\0<=p/\p<8)
def EO (j p f t f4:Int):Bool:=decide (0<=j/\j<4/\0<=p/\p<8/\0<=f4/\f4<=1073741824/\0<=f/\f<=t/\t<=600)
def GZ (j p f t f4:Int):Lg:=if EO j p f t f4=true then⟨j,p,f4+f,f4+t,-1⟩else⟨0,0,0,0,0⟩
def QX (l:Lg):Bool:=decide (0<=l.jn/\l.jn<4/\0<=l.ph/\l.ph<8/\0<=l.fr/\l.fr<=l.to/\l.to<=2147483648/\ -1<=l.sc/\l.sc<=1073741824)
def EP (l:Lg) (f4:Int):Bool:=decide (l.fr<=f4/\f4<=l.to)
def fB (l:Lg) (f4:Int):Lg:=if EP l f4=true then(if l.sc= -1 then⟨l.jn,l.ph,l.fr,l.to,f4⟩else l)else⟨l.jn,l.ph,l.fr,l.to,-1⟩
def Vf (j p:Int):xO prog 381 [iA j,iA p] [] (bA (xy j p)) []:=by
 (cases hb:xy j p with|false=>((refine eM call381 λF hF=>?_);((refine WW (I4 (λhc hc hc=>?_) (λhc hc hc=>?_) (λhc hc=>?_) λhc=>?_)));all_goals (first|exact zH|(simp only[xy,zA6]at hb;first|(exfalso;omega)|(apply vT;(exact zH);simp only[uB,zA6,zAz,zBn,zB5,zB8,zCy,zDz];omega))))|true=>(simp only[xy,zAz]at hb;(refine eM call381 λF hF=>?_);((refine WW ?_));all_goals (first|exact zH|(exfalso;omega)|(apply vT;(exact zH);simp only[uB,zA6,zAz,zBn,zB5,zB8,zCy,zDz];omega))))
def kL (n a b:Int):xO prog 296 [iA n,iA a,iA b] [] (bA (decide (a<=n/\n<=b))) []:=by
 cases hb:decide (a<=n/\n<=b)with
 |false=>
  rw[zA6]at hb
  (refine eM call296 λF hF=>?_)
  (refine WW (I2 (λhc=>?_) λhc=>?_))
  all_goals (first|exact zH|(exfalso;omega)|(apply vT;(exact zH);simp only[uB,zA6,zAz,zBn,zB5,zB8,zCy,zDz];omega))
 |true=>
  rw[zAz]at hb
  (refine eM call296 λF hF=>?_)
  (refine WW ?_)
  all_goals (first|exact zH|(exfalso;omega)|(apply vT;(exact zH);simp only[uB,zA6,zAz,zBn,zB5,zB8,zCy,zDz];omega))
def Uf (j p f t f4:Int):xO prog 352 [iA j,iA p,iA f,iA t,iA f4] [] (.tup [yO (GZ j p f t f4),iA (if EO j p f t f4=true then 0 else 8)]) []:=by
 have u:=Vf j p;unfold GZ
 cases hb:EO j p f t f4 with
 | false=>
  rw[Os zA9,Os zA9];unfold EO at hb;rw[zA6]at hb;unfold xy at u;unfold yO;by_cases z:0<=j/\j<4/\0<=p/\p<8
  .rw[zAw z]at u
   (refine eM call352 λF hF=>?_)
   (have gd:=u;refine WW (I5 (λhc=>?_) (λhc hc=>?_) (λhc hc hc=>?_) (λhc hc hc hc=>?_) (λhc hc hc hc=>?_))<;>clear gd)
   all_goals (first|exact zH|(exfalso;omega))
  .rw[zAu z]at u
   (refine eM call352 λF hF=>?_)
   (have gd:=u;refine WW ?_;clear gd)
   all_goals (first|exact zH|(exfalso;omega))
 |true=>
  rw[zAs Z,zAs Z];unfold EO at hb;rw[zAz]at hb;unfold xy at u;rw[zAw (by omega)]at u;unfold yO
  (refine eM call352 λF hF=>?_)
  (have gd:=u;refine WW ?_;clear gd)
  exact zH
def AJ (j p f t f4:Int):xO prog 292 [iA j,iA p,iA f,iA t,iA f4] [] (.tup [yO (GZ j p f t f4),iA (if EO j p f t f4=true then 0 else 8)]) []:=by
 have u:=kL j 0 3;have z:=kL p 0 7;have I:=kL f4 0 1073741824;have L:=kL f 0 t;unfold GZ
 cases hb:EO j p f t f4 with
 | false=>
  rw[Os zA9,Os zA9];unfold EO at hb;rw[zA6]at hb;unfold yO;by_cases h1:0<=j/\j<=3
  case neg=>
   rw[zAu h1]at u
   (refine eM call292 λF hF=>?_)
   (have gd:=u;refine WW ?_;clear gd)
   exact zH
  rw[zAw h1]at u;by_cases h2:0<=p/\p<=7
  case neg=>
   rw[zAu h2]at z
   (refine eM call292 λF hF=>?_)
   (have gd:=u;have gn:=z;refine WW ?_;clear gd gn)
   exact zH
  rw[zAw h2]at z;by_cases M:0<=f4/\f4<=1073741824
  case neg=>
   rw[zAu M]at I
   (refine eM call292 λF hF=>?_)
   (have gd:=u;have gn:=z;have gt:=I;refine WW ?_;clear gd gn gt)
   exact zH
  rw[zAw M]at I;by_cases O:0<=f/\f<=t
  case neg=>
   rw[zAu O]at L
   (refine eM call292 λF hF=>?_)
   (have gd:=u;have gn:=z;have gt:=I;have gv:=L;refine WW ?_;clear gd gn gt gv)
   exact zH
  rw[zAw O]at L
  (refine eM call292 λF hF=>?_)
  (have gd:=u;have gn:=z;have gt:=I;have gv:=L;refine WW ?_;clear gd gn gt gv)
  all_goals (first|exact zH|(exfalso;omega))
 |true=>
  rw[zAs Z,zAs Z];unfold EO at hb;rw[zAz]at hb;rw[zAw (by omega)]at u z I L;unfold yO
  (refine eM call292 λF hF=>?_)
  (have gd:=u;have gn:=z;have gt:=I;have gv:=L;refine WW ?_;clear gd gn gt gv)
  exact zH
def Un (l:Lg) (f4:Int):xO prog 274 [yO l,iA f4] [] (bA (EP l f4)) []:=by
 (cases hb:EP l f4 with|false=>((refine eM call274 λF hF=>?_);((refine WW (I2 (λhc=>?_) λhc=>?_)));all_goals (first|exact zH|(simp only[EP,zA6]at hb;first|(exfalso;omega)|(apply vT;(exact zH);simp only[uB,zA6,zAz,zBn,zB5,zB8,zCy,zDz];omega))))|true=>(simp only[EP,zAz]at hb;(refine eM call274 λF hF=>?_);((refine WW ?_));all_goals (first|exact zH|(exfalso;omega)|(apply vT;(exact zH);simp only[uB,zA6,zAz,zBn,zB5,zB8,zCy,zDz];omega))))
def Tf (l:Lg) (f4:Int):xO prog 247 [yO l,iA f4] [] (bA (EP l f4)) []:=by
 have c:=kL f4 l.fr l.to;unfold EP;generalize decide (l.fr<=f4/\f4<=l.to)=b at*
 (refine eM call247 λF hF=>?_)
 (have gd:=c;refine WW ?_;clear gd)
 exact zH
def eG (l:Lg) (f4:Int):xO prog 226 [yO l,iA f4] [] (yO (fB l f4)) []:=by
 have c:=Un l f4;unfold fB;generalize EP l f4=b at*
 cases b with
 |false=>
  rw[Os zA9];unfold yO at*
  (refine eM call226 λF hF=>?_)
  (have gd:=c;refine WW ?_;clear gd)
  exact zH
 | true=>
  rw[zAs Z];by_cases h:l.sc= -1
  .rw[zAs h];unfold yO at*
   (refine eM call226 λF hF=>?_)
   (have gd:=c;refine WW ?_;clear gd)
   exact zH
  .rw[Os h];unfold yO at*
   (refine eM call226 λF hF=>?_)
   (have gd:=c;refine WW ?_;clear gd)
   exact zH
def gA (l:Lg) (f4:Int):xO prog 194 [yO l,iA f4] [] (yO (fB l f4)) []:=by
 have c:=Tf l f4;unfold fB;generalize EP l f4=b at*
 cases b with
 |false=>
  rw[Os zA9];unfold yO at*
  (refine eM call194 λF hF=>?_)
  (have gd:=c;refine WW ?_;clear gd)
  exact zH
 | true=>
  rw[zAs Z];by_cases h:l.sc= -1
  .rw[zAs h];unfold yO at*
   (refine eM call194 λF hF=>?_)
   (have gd:=c;refine WW ?_;clear gd)
   exact zH
  .rw[Os h];unfold yO at*
   (refine eM call194 λF hF=>?_)
   (have gd:=c;refine WW ?_;clear gd)
   exact zH
def Tn (l:Lg):xO prog 398 [yO l] [] (bA (QX l)) []:=by
 have u:=Vf l.jn l.ph
 cases hb:QX l with
 | false=>
  unfold QX at hb;rw[zA6]at hb;unfold xy at u;by_cases z:0<=l.jn/\l.jn<4/\0<=l.ph/\l.ph<8
  .rw[zAw z]at u
   (refine eM call398 λF hF=>?_)
   (have gd:=u;refine WW (I5 (λhc hc hc hc=>?_) (λhc hc hc hc=>?_) (λhc hc hc=>?_) (λhc hc=>?_) λhc=>?_)<;>clear gd)
   all_goals (first|exact zH|(exfalso;omega)|(apply vT;(exact zH);simp only[uB,zA6,zAz,zBn,zB5,zB8,zCy,zDz];omega))
  .rw[zAu z]at u
   (refine eM call398 λF hF=>?_)
   (have gd:=u;refine WW ?_;clear gd)
   all_goals (first|exact zH|(exfalso;omega)|(apply vT;(exact zH);simp only[uB,zA6,zAz,zBn,zB5,zB8,zCy,zDz];omega))
 |true=>
  unfold QX at hb;rw[zAz]at hb;unfold xy at u;rw[zAw (by omega)]at u
  (refine eM call398 λF hF=>?_)
  (have gd:=u;refine WW ?_;clear gd)
  all_goals (first|exact zH|(exfalso;omega)|(apply vT;(exact zH);simp only[uB,zA6,zAz,zBn,zB5,zB8,zCy,zDz];omega))
def Eh (l:Lg):xO prog 369 [yO l] [] (bA (QX l)) []:=by
 have u:=kL l.jn 0 3;have z:=kL l.ph 0 7;have I:=kL l.fr 0 l.to;have L:=kL l.sc (-1) 1073741824
 cases hb:QX l with
 | false=>
  unfold QX at hb;rw[zA6]at hb;by_cases h1:0<=l.jn/\l.jn<=3
  case neg=>
   rw[zAu h1]at u
   (refine eM call369 λF hF=>?_)
   (have gd:=u;refine WW ?_;clear gd)
   exact zH
  rw[zAw h1]at u;by_cases h2:0<=l.ph/\l.ph<=7
  case neg=>
   rw[zAu h2]at z
   (refine eM call369 λF hF=>?_)
   (have gd:=u;have gn:=z;refine WW ?_;clear gd gn)
   exact zH
  rw[zAw h2]at z;by_cases M:0<=l.fr/\l.fr<=l.to
  case neg=>
   rw[zAu M]at I
   (refine eM call369 λF hF=>?_)
   (have gd:=u;have gn:=z;have gt:=I;refine WW ?_;clear gd gn gt)
   exact zH
  rw[zAw M]at I;by_cases O: -1<=l.sc/\l.sc<=1073741824
  case neg=>
   rw[zAu O]at L
   (refine eM call369 λF hF=>?_)
   (have gd:=u;have gn:=z;have gt:=I;have gv:=L;refine WW (I2 (λhc=>?_) λhc=>?_)<;>clear gd gn gt gv)
   all_goals (first|exact zH|(exfalso;omega))
  rw[zAw O]at L
  (refine eM call369 λF hF=>?_)
  (have gd:=u;have gn:=z;have gt:=I;have gv:=L;refine WW ?_;clear gd gn gt gv)
  all_goals (first|exact zH|(exfalso;omega))
 |true=>
  unfold QX at hb;rw[zAz]at hb;rw[zAw (by omega)]at u z I L
  (refine eM call369 λF hF=>?_)
  (have gd:=u;have gn:=z;have gt:=I;have gv:=L;refine WW ?_;clear gd gn gt gv)
  all_goals (first|exact zH|(exfalso;omega))
def kV:List Lg->List Lg->Bool
 |_,[]=>true
 |ga,x::post=>QX x&&(!(ga.any λy=>y.jn==x.jn)&&kV (ga++[x]) post)
def AK (l:List Lg):Bool:=decide (1<=(ln l:Int)/\(ln l:Int)<=3)&&kV [] l
def Sf {x:Lg} (h:QX x=false):kV ga (x::post)=false:=by simp[kV,h]
theorem Rf {x y:Lg} (u:y∈ga) (h:y.jn=x.jn):kV ga (x::post)=false:=by grind [kV]
theorem IE {x:Lg} (h:QX x=true) (u:∀y∈ga,y.jn≠x.jn):kV ga (x::post)=kV (ga++[x]) post:=by grind [QX,kV]
def Qf (l:List Lg):xO prog 384 [zE yO l] [] (bA (AK l)) []:=by
 have hl:=zA yO l;unfold AK;by_cases O:1<=(ln l:Int)/\(ln l:Int)<=3
 case neg=>
  rw[zAu O,zBt];by_cases h1:1<=(ln l:Int)
  all_goals
   (refine eM call384 λF hF=>?_)
   exact mx
 rw[zAw O,zA3];obtain⟨h1,O⟩:=O
 (refine eM call384 λF hF=>?_)
 (refine WW ?_)
 (refine uW (l) [] [] [0,15,16] [17,0,15,16] Z (λi ga T U zs=>(∀post,l=ga++post->kV [] l=kV ga post)/\zs=⟨(17,iA i)::T,U⟩) (Lp ?_ ?_ ?_))
 .exact⟨λpost h=>by rw[h];rfl,rfl⟩
 .rintro i ga x post st I hi ⟨hp,rfl⟩;have hy:=yJ yO I hi;have au:=zW I hi;rw[hp _ I];have M:=Tn x
  have u:QX x=true->(∀y∈ga,y.jn≠x.jn)->∀p,l=(ga++[x])++p->kV ga (x::post)=kV (ga++[x]) p:=λa b p h=>by
   have e:p=post:=by rw[I,zBl]at h;simpa using h.symm
   rw[e];exact IE a b
  cases hv:QX x with
  |false=>
   rw[Sf hv];rw[hv]at M;clear I hp u
   (have gd:=M;refine WW ?_;clear gd)
   exact zH
  | true=>
   rw[hv]at M;have ht:l.take i=ga:=by rw[I,<-hi];simp
   have ap:(List.map yO (py (i:Int).toNat l)).length=(l.take i).length:=zA yO (l.take i);have ar:(l.take i).length=i:=by rw[ht];exact hi
   (have gd:=M;refine WW ?_;clear gd)
   (refine uW (l.take i) [4] [4] [0,4,15,16,17,27,28] [29,0,4,15,16,17,27,28] Z (λi ga T U zs=>(∀y∈ga,y.jn≠x.jn)/\zs=⟨(29,iA i)::T,U⟩) (Lp ?_ ?_ ?_))
   .exact⟨by simp,rfl⟩
   .rintro k pr y po ac L hk ⟨hp2,rfl⟩;have av:=yJ yO L hk;have ag:=zW L hk;by_cases he:y.jn=x.jn
    .rw[Rf (by rw[<-ht,L];simp) he];clear L I hp u
     exact mx
    .have W:∀z∈pr++[y],z.jn≠x.jn:=λz S=>by
      simp only[zBe,zBm]at S
      rcases S with S|rfl
      .exact hp2 z S
      .exact he
     clear L I hp u
     (refine WW ?_)
     exact⟨W,rfl⟩
   .rintro ac ⟨hp2,rfl⟩;have V:=u hv (by rw[<-ht];exact hp2);clear I hp u
    (refine WW ?_)
    exact⟨V,rfl⟩
 .rintro st ⟨hp,rfl⟩;rw[hp [] zV]
  exact mx
def wR (n a b:Int):xO prog 334 [iA n,iA a,iA b] [] (bA (decide (a<=n/\n<=b))) []:=by
 cases hb:decide (a<=n/\n<=b)with
 |false=>
  rw[zA6]at hb
  (refine eM call334 λF hF=>?_)
  (refine WW (I2 (λhc=>?_) λhc=>?_))
  all_goals (first|exact zH|(exfalso;omega)|(apply vT;(exact zH);simp only[uB,zA6,zAz,zBn,zB5,zB8,zCy,zDz];omega))
 |true=>
  rw[zAz]at hb
  (refine eM call334 λF hF=>?_)
  (refine WW ?_)
  all_goals (first|exact zH|(exfalso;omega)|(apply vT;(exact zH);simp only[uB,zA6,zAz,zBn,zB5,zB8,zCy,zDz];omega))
def FA (l:List Lg) (hn:ln l<=1000000):xO prog 335 [zE yO l] [] (bA (AK l)) []:=by
 have hl:=zA yO l;have cw:=wR ((l.map yO).length:Int) 1 3;have e:decide (1<=((l.map yO).length:Int)/\((l.map yO).length:Int)<=3)=decide (1<=(ln l:Int)/\(ln l:Int)<=3):=by rw[hl]
 rw[e]at cw;clear e;unfold AK
 (refine eM call335 λF hF=>?_)
 (refine WW ?_)
 (refine uW (l) [] [] [0,7,8] [9,0,7,8] Z (λi ga T U zs=>(∀post,l=ga++post->kV [] l=kV ga post)/\zs=⟨(9,iA i)::T,U⟩) (Lp ?_ ?_ ?_))
 .exact⟨λpost h=>by rw[h];rfl,rfl⟩
 .rintro i ga x post st I hi ⟨hp,rfl⟩;have hy:=yJ yO I hi;have au:=zW I hi;rw[hp _ I];have M:=Eh x
  have u:QX x=true->(∀y∈ga,y.jn≠x.jn)->∀p,l=(ga++[x])++p->kV ga (x::post)=kV (ga++[x]) p:=λa b p h=>by
   have e:p=post:=by rw[I,zBl]at h;simpa using h.symm
   rw[e];exact IE a b
  cases hv:QX x with
  |false=>
   rw[Sf hv,zCs];rw[hv]at M;clear I hp u
   (have gd:=M;refine WW ?_;clear gd)
   exact zH
  | true=>
   rw[hv]at M;have W:l.take i=ga:=by rw[I,<-hi];simp
   have ap:(List.map yO (py (i:Int).toNat l)).length=(l.take i).length:=zA yO (l.take i);have ar:(l.take i).length=i:=by rw[W];exact hi
   (have gd:=M;refine WW ?_;clear gd)
   (refine uW (l.take i) [4] [4] [0,4,7,8,9,19,20] [21,0,4,7,8,9,19,20] Z (λi ga T U zs=>(∀y∈ga,y.jn≠x.jn)/\zs=⟨(21,iA i)::T,U⟩) (Lp ?_ ?_ ?_))
   .exact⟨by simp,rfl⟩
   .rintro k pr y po ac L hk ⟨hp2,rfl⟩;have av:=yJ yO L hk;have ag:=zW L hk;by_cases he:y.jn=x.jn
    .rw[Rf (by rw[<-W,L];simp) he,zCs];clear L I hp u
     exact mx
    .have V:∀z∈pr++[y],z.jn≠x.jn:=λz O=>by
      simp only[zBe,zBm]at O
      rcases O with O|rfl
      .exact hp2 z O
      .exact he
     clear L I hp u
     (refine WW ?_)
     exact⟨V,rfl⟩
   .rintro ac ⟨hp2,rfl⟩;have S:=u hv (by rw[<-W];exact hp2);clear I hp u
    (refine WW ?_)
    exact⟨S,rfl⟩
 .rintro st ⟨hp,rfl⟩;rw[hp [] zV,show kV l []=true from rfl,zDe];generalize decide (1<=(ln l:Int)/\(ln l:Int)<=3)=b at*
  (have gd:=cw;refine WW ?_;clear gd)
  exact zH
structure RqO (r:Rq):Prop where
 i0:0<=r.id
 i1:r.id<=4294967295
 v0:0<=r.vh
 v1:r.vh<=4294967295
 c0:0<=r.cls
 c1:r.cls<=3
 t0:0<=r.til
 t1:r.til<=2147483648
 lg:AK r.legs=true
structure cJ (l:List Rq):Prop where
 ok:∀r∈l,RqO r
 so:l.Pairwise λa b=>a.id<b.id
 n4:l.length<=4
theorem cJ.lt {l:List Rq} (h:cJ l) {i:Nat} (h0:0<i) (hi:i<ln l):(l.getD (i-1) dd).id<(l.getD i dd).id:=by
 have:=List.pairwise_iff_getElem.1 h.so (i-1) i (by omega) hi (by omega)
 grind
theorem XE {l:List Lg} (h:AK l=true):1<=(ln l:Int)/\(ln l:Int)<=3:=by grind [AK]
def MQ (n:Int):xO prog 382 [iA n] [] (bA (decide (0<=n/\n<=4294967295))) []:=by
 cases hb:decide (0<=n/\n<=4294967295)with
 |false=>(rw[zA6]at hb;(refine eM call382 λF hF=>?_);((refine WW (I2 (λhc=>?_) λhc=>?_)));all_goals (first|exact zH|(exfalso;omega)|(apply vT;(exact zH);simp only[uB,zA6,zAz,zBn,zB5,zB8,zCy,zDz];omega)))
 |true=>(rw[zAz]at hb;(refine eM call382 λF hF=>?_);((refine WW ?_));all_goals (first|exact zH|(exfalso;omega)|(apply vT;(exact zH);simp only[uB,zA6,zAz,zBn,zB5,zB8,zCy,zDz];omega)))
def Fc (n:Int):xO prog 383 [iA n] [] (bA (decide (0<=n/\n<=3))) []:=by
 cases hb:decide (0<=n/\n<=3)with
 |false=>(rw[zA6]at hb;(refine eM call383 λF hF=>?_);((refine WW (I2 (λhc=>?_) λhc=>?_)));all_goals (first|exact zH|(exfalso;omega)|(apply vT;(exact zH);simp only[uB,zA6,zAz,zBn,zB5,zB8,zCy,zDz];omega)))
 |true=>(rw[zAz]at hb;(refine eM call383 λF hF=>?_);((refine WW ?_));all_goals (first|exact zH|(exfalso;omega)|(apply vT;(exact zH);simp only[uB,zA6,zAz,zBn,zB5,zB8,zCy,zDz];omega)))
def Pf (n:Int):xO prog 355 [iA n] [] (bA (decide (0<=n/\n<=1073741824))) []:=by
 cases hb:decide (0<=n/\n<=1073741824)with
 |false=>(rw[zA6]at hb;(refine eM call355 λF hF=>?_);((refine WW (I2 (λhc=>?_) λhc=>?_)));all_goals (first|exact zH|(exfalso;omega)|(apply vT;(exact zH);simp only[uB,zA6,zAz,zBn,zB5,zB8,zCy,zDz];omega)))
 |true=>(rw[zAz]at hb;(refine eM call355 λF hF=>?_);((refine WW ?_));all_goals (first|exact zH|(exfalso;omega)|(apply vT;(exact zH);simp only[uB,zA6,zAz,zBn,zB5,zB8,zCy,zDz];omega)))
def TK (l:List Rq) (q:Int) (hv:cJ l) (hq:(ln l:Int)<=q):xO prog 354 [zE zY l,iA q] [] (bA true) []:=by
 have hl:=zA zY l;have h4:=hv.n4
 (refine eM call354 λF hF=>?_)
 (refine WW ?_)
 (refine zO (ln l) [] [] [0,16,17] [18,0,16,17] Z (λi T U=>⟨(18,iA i)::T,U⟩) (Lq ?_ ?_))
 .intro i hi;have hy:=zJ zY l i hi;have I:l.getD i dd∈l:=by simp[p5,hi]
  obtain⟨i0,i1,v0,v1,c0,c1,t0,t1,V⟩:=hv.ok _ I;have L:=MQ (l.getD i dd).id;have M:=MQ (l.getD i dd).vh;have O:=Fc (l.getD i dd).cls;have S:=Qf (l.getD i dd).legs;rw[zAw (by omega)]at L M O;rw[V]at S;by_cases z:0<i
  .have u:=yE zY l ((i:Int)-1) (by omega) (by omega);rw[show((i:Int)-1).toNat=i-1 by omega]at u;have ac:(l.map zY)[((i:Int)-1).toNat]? =some (zY (l.getD (i-1) dd)):=by rw[show((i:Int)-1).toNat=i-1 by omega];exact u
   have W:=hv.lt z hi;clear u I V;generalize l.getD i dd=t,l.getD (i-1) dd=p at *
   (have gd:=L;have gn:=M;have gt:=O;have gv:=S;refine WW ?_;clear gd gn gt gv)
   rfl
  .obtain rfl:i=0:=by omega
   clear I V;generalize l.getD 0 dd=t at*
   (have gd:=L;have gn:=M;have gt:=O;have gv:=S;refine WW ?_;clear gd gn gt gv)
   rfl
 .exact mx
def XF (l:List Rq) (q:Int) (hv:cJ l) (hq:(ln l:Int)<=q):xO prog 295 [zE zY l,iA q] [] (bA true) []:=by
 have hl:=zA zY l;have h4:=hv.n4
 (refine eM call295 λF hF=>?_)
 (refine WW ?_)
 (refine zO (ln l) [] [] [0,1,7,8] [9,0,1,7,8] Z (λi T U=>⟨(9,iA i)::T,U⟩) (Lq ?_ ?_))
 .intro i hi;have hy:=zJ zY l i hi;have L:l.getD i dd∈l:=by simp[p5,hi]
  obtain⟨i0,i1,v0,v1,c0,c1,t0,t1,z⟩:=hv.ok _ L;have M:=wR (l.getD i dd).id 0 4294967295;have O:=wR (l.getD i dd).vh 0 4294967295;have S:=wR (l.getD i dd).cls 0 3;have W:=wR (l.getD i dd).til 0 2147483648;have V:=FA (l.getD i dd).legs (by have:=XE z;omega);rw[zAw (by omega)]at M O S W;rw[z]at V;by_cases I:0<i
  .have u:=yE zY l ((i:Int)-1) (by omega) (by omega);rw[show((i:Int)-1).toNat=i-1 by omega]at u;have ag:(l.map zY)[((i:Int)-1).toNat]? =some (zY (l.getD (i-1) dd)):=by rw[show((i:Int)-1).toNat=i-1 by omega];exact u
   have ac:=hv.lt I hi;clear u L z;generalize l.getD i dd=t,l.getD (i-1) dd=p at *
   (have gd:=M;have gn:=O;have gt:=S;have gv:=W;have io:=V;refine WW ?_;clear gd gn gt gv io)
   rfl
  .obtain rfl:i=0:=by omega
   clear L z;generalize l.getD 0 dd=t at*
   (have gd:=M;have gn:=O;have gt:=S;have gv:=W;have io:=V;refine WW ?_;clear gd gn gt gv io)
   rfl
 .exact mx
def FB (n:Int) (i:Nat):Int:=IntKind.u8.wrap (BitVec.ofInt IntKind.u8.bits (IntKind.u8.wrap ((IntKind.u64.wrap n).fdiv (2 ^ (min (8*(i:Int)).toNat IntKind.u64.bits)))) ^^^ BitVec.ofInt IntKind.u8.bits (29*(i:Int)+7)).toNat
def cL (n:Int):List Int:=(pi 8).map (FB n)
def cD (n:Int):xO prog 35 [iA n] [] (zE yA (cL n)) []:=by
 have L:∀i:Nat,((pi i).map (FB n)).map yA=((pi i).map (FB n)).map yA:=λ_=>rfl
 (refine eM call35 λF hF=>?_)
 (repeat' (first|refine aP ?_|refine yW (λhc=>?_) λhc=>?_|fail))
 refine zQ 3 1001 1 Z Z Z ?_
 refine wQ (λk st=>∃i:Nat,k+i=8/\st=⟨[(0,iA n),(3,.ref 1001 0 (((pi i).map (FB n)).map yA).length),(5,iA i)],[(1001,.arr 1 (((pi i).map (FB n)).map yA) true)]⟩)
  8 [1001] [0,3,5] Z ⟨0,rfl,rfl⟩ ?_
 rintro k st ⟨i,hi,rfl⟩;by_cases u:i<8
 .have z:((pi (i+1)).map (FB n)).map yA=((pi i).map (FB n)).map yA++[yA (FB n i)]:=by rw[zCt];simp
  have I:((pi i).map (FB n)).length=i:=by simp
  (repeat' (first|refine aP ?_|refine yW (λhc=>?_) λhc=>?_|fail))
  exact⟨k-1,by omega,i+1,by omega,by rw[z];rfl⟩
 .obtain rfl:i=8:=by omega
  (repeat' (first|refine aP ?_|refine yW (λhc=>?_) λhc=>?_|fail))
  exact zI [] Z Z (zBd (AV.sl false) zAv) Z
def Dr (d:Dk):Dk:=ad (ad (ad (ad (ad (ad (ad d))))))
def Sn (d:Dk) (z u:Int):Ag:=⟨cL (1000+z),u,3,[1+nx d (3-1+1),1+nx (ad d) (3-1+1),nx (ad (ad d)) 3,nx (ad (ad (ad d))) 3],1+nx (ad (ad (ad (ad d)))) (3-1+1),1+nx (ad (ad (ad (ad (ad d))))) (2-1+1),
 1+nx (ad (ad (ad (ad (ad (ad d)))))) (3-1+1),1+nx (ad (ad (ad (ad (ad (ad d)))))) (3-1+1)+nx (Dr d) 5⟩
def Rn (d:Dk) (z u:Int) (h0:0<=z) (h1:z<=1000):xO prog 92 [.ptr 1000 0 0,iA z,iA u] [(1000,fF d)] (uF (Sn d z u)) [(1000,fF (ad (Dr d)))]:=by
 have hb:=yQ (ad (ad (ad (ad (ad (ad d)))))) (3-1+1) (by omega);have L:=yQ (Dr d) 5 (by omega);have I:=cD (1000+z);unfold Sn Dr at *;generalize cL (1000+z)=M at*
 (refine eM call92 λF hF=>?_)
 (repeat' (first|refine aP ?_|refine yW (λhc=>?_) λhc=>?_|(apply zG;apply xP;(first|(refine vH 35 ?_;first|refine wM (zL (I) Z Z Z Z Z) Z ?_|refine uT (zL (I) Z Z Z Z Z) Z Z Z ?_|refine aI (zL (I) Z Z Z Z Z) Z Z Z ?_)|(refine vH 68 ?_;first|refine wM (zL (jP _ _ _ (by omega) (by omega) (by omega)) Z Z Z Z Z) Z ?_|refine uT (zL (jP _ _ _ (by omega) (by omega) (by omega)) Z Z Z Z Z) Z Z Z ?_|refine aI (zL (jP _ _ _ (by omega) (by omega) (by omega)) Z Z Z Z Z) Z Z Z ?_)|(refine vH 16 ?_;first|refine wM (zL (yR _ _ (by omega) (by omega)) Z Z Z Z Z) Z ?_|refine uT (zL (yR _ _ (by omega) (by omega)) Z Z Z Z Z) Z Z Z ?_|refine aI (zL (yR _ _ (by omega) (by omega)) Z Z Z Z Z) Z Z Z ?_)))|fail))
 exact zP [1000] Z Z Z Z
