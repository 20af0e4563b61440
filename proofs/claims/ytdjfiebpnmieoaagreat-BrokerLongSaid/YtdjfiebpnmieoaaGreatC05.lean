/- Part 5. -/
import Derived.Test.YtdjfiebpnmieoaaGreatC04
namespace Go.Proofs.YtdjfiebpnmieoaaGreat.Av
open Tryz
set_option linter.all false
set_option maxRecDepth 4000
set_option maxHeartbeats 2000000
open List renaming length->ln,range->nm,take->ny,getD->oj
open Inhabited renaming default->dd
variable {r:AV}{h0 h1:List (Nat×wB)}{n:Nat}{A B C D E F G Y a b c d p q:Prop}{α:Type}
def Lp(a:A)(b:B)(c:C)(h:p=(A/\B/\C):=by conv=>lhs;whnf):p:=by(rw[h];exact⟨a,b,c⟩)
def Lq(b:B)(c:C)(h:p=(A/\B/\C):=by conv=>lhs;whnf)(a:A:=by rfl):p:=by(rw[h];exact⟨a,b,c⟩)
structure YW (q:Prop):Prop where
 h:q
structure Z1 (n:Nat) (K ts:List Nat):Prop where
def I2 (x:a) (y:b):a/\b:=⟨x,y⟩
def I4 (x:a) (y:b) (z:c) (u:d):a/\b/\c/\d:=⟨x,y,z,u⟩
def I5 {e:Prop} (x:a) (y:b) (z:c) (u:d) (v:e):a/\b/\c/\d/\e:=⟨x,y,z,u,v⟩
def I6 {e f:Prop} (x:a) (y:b) (z:c) (u:d) (v:e) (w:f):a/\b/\c/\d/\e/\f:=⟨x,y,z,u,v,w⟩
section
variable {P:Program} {K0:List Nat} {F:Fr K0} {m:Nat} {ops:Array Oper} {rest:List Oper} {Q:List FP->St->Prop} {dr:Bool} {fs:List FP} {ty t:Nat} {pos:String} {after:Array Edge} {st:St}
def Y1 {u:List AV} (_:xR P n u h0 r h1) {z:Array Operand} {I:Array Nat} (hk:yQ P F m ops dr (⟨some t,.call ⟨.value (.func n),z,I⟩,ty,pos,after,none⟩::rest) st fs Q):yQ P F m ops dr (⟨some t,.call ⟨.value (.func n),z,I⟩,ty,pos,after,none⟩::rest) st fs Q:=hk
def Nd {K I:List Nat} (_:Z1 n K I) {u:Array Operand} {z:Array Nat} (hk:yQ P F m ops dr (⟨some t,.call ⟨.value (.func n),u,z⟩,ty,pos,after,none⟩::rest) st fs Q):yQ P F m ops dr (⟨some t,.call ⟨.value (.func n),u,z⟩,ty,pos,after,none⟩::rest) st fs Q:=hk
def KN {z:List (Nat×AV)} {h:List (Nat×wB)} {Q:List FP->St->Prop} {K u:List Nat} (_:Z1 n K u) (I:K0.all (K.contains ·)=true) (h1:gV K (zE h) z u λT=>gP K (zE h) K λU=>yQ P F m ops false rest ⟨T,U⟩ fs Q):yQ P F m ops false rest ⟨z,h⟩ fs Q:=kL K u I h1
end
def CC (k:q) (h:YW q->p:=by(intro ge;(((first|refine Y1 zc ?_|refine ia ?_);first|refine yE (zL (zc) Z Z Z Z Z) Z ?_|refine qB (zL (zc) Z Z Z Z Z) Z Z Z ?_|refine ZR (zL (zc) Z Z Z Z Z) Z Z Z ?_|refine yE (gG (zc) Z Z Z Z Z) Z ?_|refine qB (gG (zc) Z Z Z Z Z) Z Z Z ?_));exact ge.h)):p:=h ⟨k⟩
def PT (k:q) (h:YW q->p:=by(intro ge;(first|refine wX tok Z Z ?_|(refine bT ?_;first|refine xe Z Z ?_|refine JD Z Z Z Z ?_)|(refine xZ ?_;first|refine yE (dE Z Z Z (by unfold XW;omega)) Z ?_|refine yE (dF Z Z Z (by unfold XW;omega)) Z ?_|refine yE (ZZ Z Z Z) Z ?_|refine yE (dS Z Z ⟨by omega,by omega⟩) Z ?_|refine yE (YI Z Z ⟨by omega,by omega⟩) Z ?_|refine yE (dT Z Z ⟨by omega,by omega⟩) Z ?_|refine yE (YJ Z Z aO (by omega)) Z ?_|refine yE (YL Z Z (by omega)) Z ?_|refine yE (YM Z Z) Z ?_|refine yE (bN Z Z (by omega)) Z ?_|refine yE (bO Z Z (by omega)) Z ?_|refine yE (vT (.inl ⟨rfl,rfl⟩) Z Z (by omega)) Z ?_|refine yE (vT (.inr ⟨rfl,rfl⟩) Z Z (by omega)) Z ?_|refine yE (uV tok Z Z Z Z (.inl ⟨rfl,rfl⟩)) Z ?_|refine yE (uV tok Z Z Z Z (.inr ⟨rfl,rfl⟩)) Z ?_|refine yE (fJ tok (.inl ⟨rfl,rfl⟩) Z Z Z) Z ?_|refine yE (yU tok (.inl ⟨rfl,rfl⟩) Z Z Z Z) Z ?_|refine yE (bL Z Z) Z ?_|refine yE (gF Z Z) Z ?_|refine yE (bM Z Z) Z ?_|refine yE (fG Z Z aO) Z ?_|refine yE (fO Z Z) Z ?_|refine yE (fH Z Z aO) Z ?_|refine yE (fP Z Z) Z ?_)|(refine SD ?_;first|refine yE (uJ tok Z Z Z Z Z (by omega) vF Z Z) Z ?_|refine yE (uF tok Z Z Z Z Z Z (by omega) (by omega) Z) Z ?_|refine yE (vS tok Z Z Z Z Z Z (by omega) (by omega)) Z ?_)|(refine YH ?_;first|refine yE (jA tok Z Z Z vF Z) Z ?_|refine yE (kZ tok Z Z Z vF Z) Z ?_|refine yE (kH tok Z Z Z Z vF Z) Z ?_|refine yE (kG tok Z Z Z Z vF Z) Z ?_)|(refine SE ?_;first|refine yE (vR tok Z Z Z Z Z Z Z Z) Z ?_|refine yE (uI tok Z vF Z Z Z Z Z Z) Z ?_)|(refine yG ?_;first|refine xW tok Z Z Z Z Z Z Z (by first|(intro y u;cases u;rfl)|exact zZ _ _ (λ_=>rfl)) Z Z Z (by first|omega|(simp;done)|(simp;omega)) Z ?_|refine jX tok Z Z Z Z Z Z Z Z Z Z Z (by first|(intro y u;cases u;rfl)|exact zZ _ _ (λ_=>rfl)) (by first|omega|(simp;done)|(simp;omega)) Z ?_)|(refine XX ?_;first|refine yE (YN Z ⟨by omega,by omega⟩) Z ?_)|(refine YA ?_;first|refine yE (jY tok Z Z Z Z ⟨by omega,by omega⟩) Z ?_|refine yE (cD tok Z Z Z Z) Z ?_|refine yE (hG tok Z Z Z Z Z Z Z vF) Z ?_)|(refine jN ?_;first|refine aN tok Z Z Z Z Z (by first|(intro y u;cases u;rfl)|exact zZ _ _ (λ_=>rfl)|assumption|(simp;done)) (by omega) uH JE Z ?_|refine TW tok Z Z Z Z Z (by first|(intro y u;cases u;rfl)|exact zZ _ _ (λ_=>rfl)|assumption|(simp;done)) (by omega) uH JF Z ?_|refine YD tok Z Z Z Z Z Z (by first|(intro y u;cases u;rfl)|exact zZ _ _ (λ_=>rfl)|assumption|(simp;done)) (by omega) (by omega) (by first|omega|(simp;omega)) JG Z ?_));exact ge.h)):p:=h ⟨k⟩
def SB (k:q) (h:YW q->p:=by(intro ge;refine zG ?_;(first|(refine aM ?_;refine yE (wM Z Z Z) Z ?_)|refine gD tok Z Z Z Z ?_|(refine gA ?_;first|refine SI tok Z Z Z Z Z Z ?_|refine jR tok Z Z Z ?_|refine XY tok Z Z Z vF Z Z Z Z Z Z ?_|refine YB tok Z Z Z vF Z Z Z Z Z Z Z Z ?_)|refine uT ?_|refine dH UH ?_);exact ge.h)):p:=h ⟨k⟩
def SC (k:q) (h:YW q->p:=by(intro ge;((first|(refine Nd kh ?_;refine KN kh Z ?_;(conv=>whnf);(try simp only[zAu,zAb]))|(refine Nd zf2 ?_;refine KN zf2 Z ?_;(conv=>whnf);(try simp only[zAu,zAb]))|(refine Nd zf3 ?_;refine KN zf3 Z ?_;(conv=>whnf);(try simp only[zAu,zAb]))|skip);first|(have zc:=gd;refine CC ?_;clear zc)|(have zc:=gn;refine CC ?_;clear zc)|(have zc:=gt;refine CC ?_;clear zc)|(have zc:=gv;refine CC ?_;clear zc)|(have zc:=ka;refine CC ?_;clear zc)|(have zc:=kz;refine CC ?_;clear zc)|(have zc:=zc7;refine CC ?_;clear zc)|(have zc:=zc8;refine CC ?_;clear zc)|(have zc:=zc9;refine CC ?_;clear zc)|(have zc:=zc10;refine CC ?_;clear zc)|(have zc:=zc11;refine CC ?_;clear zc)|(have zc:=zc12;refine CC ?_;clear zc)|(have zc:=zc13;refine CC ?_;clear zc)|(have zc:=zc14;refine CC ?_;clear zc)|(have zc:=zc15;refine CC ?_;clear zc)|(have zc:=zc16;refine CC ?_;clear zc)|fail);exact ge.h)):p:=h ⟨k⟩
def WZ (k:q) (h:YW q->p:=by(intro ge;(repeat1' (first|(refine zG ?_;first|refine PT ?_|(refine xO ?_;refine SC ?_)|refine SB ?_)|refine xK ?_|refine xF ?_|refine xB ?_|refine xJ ?_));exact ge.h)):p:=h ⟨k⟩
def WS (k:q) (h:YW q->p:=by(intro ge;(repeat1' (first|(refine zG ?_;first|refine PT ?_|(refine xO ?_;refine SC ?_)|refine SB ?_)));exact ge.h)):p:=h ⟨k⟩
def WV (k:q) (h:YW q->p:=by(intro ge;(repeat1' (first|(refine zG ?_;first|refine PT ?_|(refine xO ?_;refine SC ?_)|((fail_if_success refine yR ?_);refine SB ?_))));exact ge.h)):p:=h ⟨k⟩
def WY (k:q) (h:YW q->p:=by(intro ge;(repeat1' (first|(refine zG ?_;first|refine PT ?_|(refine xO ?_;refine SC ?_)|((fail_if_success refine yR ?_);refine SB ?_))|refine xK ?_|refine xF ?_|refine xB ?_|refine xJ ?_));exact ge.h)):p:=h ⟨k⟩
def WT (k:q) (h:YW q->p:=by(intro ge;(repeat1' (first|(refine zG ?_;first|refine PT ?_|(refine xO ?_;refine SC ?_)|((fail_if_success refine gA ?_);refine SB ?_))|refine xK ?_|refine xF ?_|refine xB ?_|refine xJ ?_));exact ge.h)):p:=h ⟨k⟩
def SG (k:q) (h:YW q->p:=by(intro ge;refine zG ?_;refine bT ?_;((refine gY Z Z (λla=>?_) λla=>?_)<;>(try simp only[uE,zAe,zAk,zBl,zB9,zC2,zCq,zAy,zBd,zDy,zDx,zCs]at la));(all_goals (repeat revert la));first|done|(exact ge.h;done)|(exact ge.h.1;exact ge.h.2;done)|(exact ge.h.1;exact ge.h.2.1;exact ge.h.2.2;done)|(exact ge.h.1;exact ge.h.2.1;exact ge.h.2.2.1;exact ge.h.2.2.2;done)|(exact ge.h.1;exact ge.h.2.1;exact ge.h.2.2.1;exact ge.h.2.2.2.1;exact ge.h.2.2.2.2;done)|(exact ge.h.1;exact ge.h.2.1;exact ge.h.2.2.1;exact ge.h.2.2.2.1;exact ge.h.2.2.2.2.1;exact ge.h.2.2.2.2.2;done))):p:=h ⟨k⟩
def SK (k:q) (h:YW q->p:=by(intro ge;((refine xU Z (λla=>?_) λla=>?_)<;>(try simp only[uE,zAe,zAk,zBl,zB9,zC2,zCq,zAy,zBd,zDy,zDx,zCs]at la));(all_goals (repeat revert la));first|done|(exact ge.h;done)|(exact ge.h.1;exact ge.h.2;done)|(exact ge.h.1;exact ge.h.2.1;exact ge.h.2.2;done)|(exact ge.h.1;exact ge.h.2.1;exact ge.h.2.2.1;exact ge.h.2.2.2;done)|(exact ge.h.1;exact ge.h.2.1;exact ge.h.2.2.1;exact ge.h.2.2.2.1;exact ge.h.2.2.2.2;done)|(exact ge.h.1;exact ge.h.2.1;exact ge.h.2.2.1;exact ge.h.2.2.2.1;exact ge.h.2.2.2.2.1;exact ge.h.2.2.2.2.2;done))):p:=h ⟨k⟩
def SM (k:q) (h:YW q->p:=by(intro ge;((refine eJ ?_;refine Pn tok Z Z Z Z Z Z Z Z Z Z Z Z Z (by omega) (by omega) Z Z Z ?_));exact ge.h)):p:=h ⟨k⟩
def SL (k:q) (h:YW q->p:=by(intro ge;(first|(refine yR ?_;refine kD tok Z Z ?_)|(refine yG ?_;refine jJ tok Z Z Z Z Z Z (by first|(intro y u;cases u;rfl)|exact zZ _ _ (λ_=>rfl)) Z Z Z (by first|omega|(simp;done)|(simp;omega)) Z ?_));exact ge.h)):p:=h ⟨k⟩
def SR (k:q) (h:YW q->p:=by(intro ge;(first|refine xK ?_|refine xF ?_|refine vQ Z ?_|refine yM Z ?_|refine yB Z ?_|refine xB ?_|refine xG ?_|refine xJ ?_|refine xE ?_);exact ge.h)):p:=h ⟨k⟩
def SX (k:q) (h:YW q->p:=by(intro ge;(first|refine xK ?_|refine xF ?_|refine yM Z ?_|refine yB Z ?_|refine xB ?_|refine xG ?_|refine xJ ?_);exact ge.h)):p:=h ⟨k⟩
def SN (k:q) (h:YW q->p:=by(intro ge;(first|refine xK ?_|refine xF ?_|refine vQ Z ?_|refine yM Z ?_|refine yB Z ?_|refine xB ?_|refine xJ ?_|refine xE ?_);exact ge.h)):p:=h ⟨k⟩
def SQ (k:q) (h:YW q->p:=by(intro ge;(first|refine xK ?_|refine xF ?_|refine vQ Z ?_|refine xB ?_|refine xG ?_|refine xJ ?_);exact ge.h)):p:=h ⟨k⟩
def SV (k:q) (h:YW q->p:=by(intro ge;(first|refine xK ?_|refine xF ?_|refine vQ Z ?_|refine yM Z ?_|refine yB Z ?_|refine xB ?_|refine xG ?_|refine xJ ?_);exact ge.h)):p:=h ⟨k⟩
structure Q8 (a:Prop):Prop where
 x:a
structure N6 (a b:Prop):Prop where
 x:a
 y:b
def xM (x:a):Q8 a:=⟨x⟩
def yZ (x:a) (y:b):N6 a b:=⟨x,y⟩
def YG (k:N6 a b) (h:a->b->p:=by(intro lb zy8;refine zG ?_;refine bT ?_;((refine gY Z Z (λla=>?_) λla=>?_)<;>(try simp only[uE,zAe,zAk,zBl,zB9,zC2,zCq,zAy,zBd,zDy,zDx,zCs]at la));(all_goals (repeat revert la));exact lb;exact zy8)):p:=h k.x k.y
def Px (k:Q8 a) (h:a->p:=by(intro lb;refine zG ?_;refine bT ?_;((refine gY Z Z (λla=>?_) λla=>?_)<;>(try simp only[uE,zAe,zAk,zBl,zB9,zC2,zCq,zAy,zBd,zDy,zDx,zCs]at la));(all_goals (repeat revert la));exact lb)):p:=h k.x
def YK (k:N6 a b) (h:a->b->p:=by(intro lb zy8;((refine xU Z (λla=>?_) λla=>?_)<;>(try simp only[uE,zAe,zAk,zBl,zB9,zC2,zCq,zAy,zBd,zDy,zDx,zCs]at la));(all_goals (repeat revert la));exact lb;exact zy8)):p:=h k.x k.y
def M6 (k:Q8 a) (h:a->p:=by(intro lb;((refine xU Z (λla=>?_) λla=>?_)<;>(try simp only[uE,zAe,zAk,zBl,zB9,zC2,zCq,zAy,zBd,zDy,zDx,zCs]at la));(all_goals (repeat revert la));exact lb)):p:=h k.x
def A9 (k:N6 a b) (h:a->b->p:=by(intro lb zy8;refine zG ?_;refine bT ?_;refine gY Z Z (λla=>?_) λla=>?_;(all_goals (repeat revert la));exact lb;exact zy8)):p:=h k.x k.y
def YK0 (k:N6 a b) (h:a->b->p:=by(intro lb zy8;refine xU Z (λla=>?_) λla=>?_;(all_goals (repeat revert la));exact lb;exact zy8)):p:=h k.x k.y
def uD (k:q) (h:YW q->p:=by(intro ge;(first|refine WZ ?_|refine YG ?_|refine Px ?_|refine SR ?_|refine YK ?_|refine M6 ?_);exact ge.h)):p:=h ⟨k⟩
def F7 (k:q) (h:YW q->p:=by(intro ge;(first|refine WZ ?_|refine YG ?_|refine Px ?_|refine SX ?_);exact ge.h)):p:=h ⟨k⟩
def Md (k:q) (h:YW q->p:=by(intro ge;(first|refine WZ ?_|refine YG ?_|refine Px ?_|refine SN ?_|refine YK ?_|refine M6 ?_);exact ge.h)):p:=h ⟨k⟩
def Xu (k:q) (h:YW q->p:=by(intro ge;(first|refine WZ ?_|refine YG ?_|refine Px ?_|refine SQ ?_);exact ge.h)):p:=h ⟨k⟩
def P8 (k:q) (h:YW q->p:=by(intro ge;(first|refine WZ ?_|refine YG ?_|refine Px ?_|refine SV ?_|refine YK ?_|refine M6 ?_);exact ge.h)):p:=h ⟨k⟩
def dZ (k:q) (h:YW q->p:=by(intro ge;(first|refine WY ?_|refine YG ?_|refine Px ?_|refine SR ?_|refine YK ?_|refine M6 ?_);exact ge.h)):p:=h ⟨k⟩
def WYX (k:q) (h:YW q->p:=by(intro ge;(first|refine WY ?_|refine YG ?_|refine Px ?_|refine SX ?_);exact ge.h)):p:=h ⟨k⟩
def O8 (k:q) (h:YW q->p:=by(intro ge;(first|refine WT ?_|refine YG ?_|refine Px ?_|refine SR ?_|refine YK ?_|refine M6 ?_);exact ge.h)):p:=h ⟨k⟩
def XC (k:q) (h:YW q->p:=by(intro ge;(first|refine WZ ?_|refine A9 ?_|refine SR ?_|refine YK0 ?_);exact ge.h)):p:=h ⟨k⟩
def WW (k:q) (h:YW q->p:=by(intro ge;(repeat' (first|refine WZ ?_|refine SG (I2 (λic=>?_) λic=>?_)|refine SG λic=>?_|(refine zG ?_;refine SM ?_)|refine SR ?_|refine SK (I2 (λic=>?_) λic=>?_)|refine SK λic=>?_|fail));(all_goals (repeat revert ic));first|done|(exact ge.h;done)|(exact ge.h.1;exact ge.h.2;done)|(exact ge.h.1;exact ge.h.2.1;exact ge.h.2.2;done)|(exact ge.h.1;exact ge.h.2.1;exact ge.h.2.2.1;exact ge.h.2.2.2;done)|(exact ge.h.1;exact ge.h.2.1;exact ge.h.2.2.1;exact ge.h.2.2.2.1;exact ge.h.2.2.2.2;done)|(exact ge.h.1;exact ge.h.2.1;exact ge.h.2.2.1;exact ge.h.2.2.2.1;exact ge.h.2.2.2.2.1;exact ge.h.2.2.2.2.2;done))):p:=h ⟨k⟩
def WL (k:q) (h:YW q->p:=by(intro ge;(repeat' (first|refine WY ?_|refine SG (I2 (λic=>?_) λic=>?_)|refine SG λic=>?_|(refine zG ?_;first|refine SL ?_|refine SM ?_)|refine SB ?_|refine SR ?_|refine SK (I2 (λic=>?_) λic=>?_)|refine SK λic=>?_|fail));(all_goals (repeat revert ic));first|done|(exact ge.h;done)|(exact ge.h.1;exact ge.h.2;done)|(exact ge.h.1;exact ge.h.2.1;exact ge.h.2.2;done)|(exact ge.h.1;exact ge.h.2.1;exact ge.h.2.2.1;exact ge.h.2.2.2;done)|(exact ge.h.1;exact ge.h.2.1;exact ge.h.2.2.1;exact ge.h.2.2.2.1;exact ge.h.2.2.2.2;done)|(exact ge.h.1;exact ge.h.2.1;exact ge.h.2.2.1;exact ge.h.2.2.2.1;exact ge.h.2.2.2.2.1;exact ge.h.2.2.2.2.2;done))):p:=h ⟨k⟩
def WD (k:q) (h:YW q->p:=by(intro ge;(repeat' (first|refine WZ ?_|refine SG (I2 (λic=>?_) λic=>?_)|refine SG λic=>?_|(refine zG ?_;refine SM ?_)|refine SX ?_|fail));(all_goals (repeat revert ic));first|done|(exact ge.h;done)|(exact ge.h.1;exact ge.h.2;done)|(exact ge.h.1;exact ge.h.2.1;exact ge.h.2.2;done)|(exact ge.h.1;exact ge.h.2.1;exact ge.h.2.2.1;exact ge.h.2.2.2;done)|(exact ge.h.1;exact ge.h.2.1;exact ge.h.2.2.1;exact ge.h.2.2.2.1;exact ge.h.2.2.2.2;done)|(exact ge.h.1;exact ge.h.2.1;exact ge.h.2.2.1;exact ge.h.2.2.2.1;exact ge.h.2.2.2.2.1;exact ge.h.2.2.2.2.2;done))):p:=h ⟨k⟩
def eN {f:Nat} {fn:Func} {body:Code} {args:List AV} (O:prog.funcs[f]? =some fn) (u:ZF prog f) (h:∀F:Fr (xD h0),F.ro=none/\F.it=false->uR prog F fn.ntmps body ⟨QH 0 args,h0⟩ (Fin TT fn.results.toList h0 r h1)) (hb:fn.body=some body:=by exact Z) (z:Nat.ble (ln args) fn.ntmps=true:=by exact Z) (M:uN h0=true:=by exact Z) (I:uN h1=true:=by exact Z) (L:Nat.ble fn.ntmps GS=true:=by rfl):xR prog f args h0 r h1:=TZ tok O hb u z M I h L
def zI {TT:List TI} {u:List ResultVar} {st:St} {vs:List AV} (h:IZ TT st u=some vs:=by exact Z) (z:(xD h0).all (([]:List Nat).contains ·)=true:=by exact Z) (I:YY (wQ [] (zE st.h) (Va vs))=r:=by exact Z) (hh:vH [] (zE st.h)=h1:=by exact Z):Fin TT u h0 r h1 .ret st:=zH [] h z I hh
def lp{p:Prop}(h:p:=by(refine WL ?_;exact zI)):p:=h
def lc{p:Prop}(h:p:=by(refine WW ?_;exact zI)):p:=h
structure P9 (A B:Prop):Prop where
  mk::(a1:A) (b1:B)
def xV (u:A) (z:B):P9 A B:=⟨u,z⟩
def N8 (z:P9 A B) (h:A->B->p):p:=h z.a1 z.b1
structure O9 (A B C:Prop):Prop where
  mk::(a1:A) (b1:B) (c1:C)
def kC (u:A) (z:B) (I:C):O9 A B C:=⟨u,z,I⟩
def M8 (z:O9 A B C) (h:A->B->C->p):p:=h z.a1 z.b1 z.c1
structure N9 (A B C D:Prop):Prop where
  mk::(a1:A) (b1:B) (c1:C) (d1:D)
def aB (u:A) (z:B) (I:C) (L:D):N9 A B C D:=⟨u,z,I,L⟩
def L8 (z:N9 A B C D) (h:A->B->C->D->p):p:=h z.a1 z.b1 z.c1 z.d1
structure M9 (A B C D E:Prop):Prop where
  mk::(a1:A) (b1:B) (c1:C) (d1:D) (e1:E)
def KO (u:A) (z:B) (I:C) (L:D) (e1:E):M9 A B C D E:=⟨u,z,I,L,e1⟩
def K8 (z:M9 A B C D E) (h:A->B->C->D->E->p):p:=h z.a1 z.b1 z.c1 z.d1 z.e1
structure L9 (A B C D E F:Prop):Prop where
  mk::(a1:A) (b1:B) (c1:C) (d1:D) (e1:E) (f1:F)
def Ld (u:A) (z:B) (I:C) (L:D) (e1:E) (M:F):L9 A B C D E F:=⟨u,z,I,L,e1,M⟩
def J8 (z:L9 A B C D E F) (h:A->B->C->D->E->F->p):p:=h z.a1 z.b1 z.c1 z.d1 z.e1 z.f1
structure K9 (A B C D E F G:Prop):Prop where
  mk::(a1:A) (b1:B) (c1:C) (d1:D) (e1:E) (f1:F) (g1:G)
def Ox (u:A) (z:B) (I:C) (L:D) (e1:E) (M:F) (O:G):K9 A B C D E F G:=⟨u,z,I,L,e1,M,O⟩
def I8 (z:K9 A B C D E F G) (h:A->B->C->D->E->F->G->p):p:=h z.a1 z.b1 z.c1 z.d1 z.e1 z.f1 z.g1
structure J9 (A B C D E F G H:Prop):Prop where
  mk::(a1:A) (b1:B) (c1:C) (d1:D) (e1:E) (f1:F) (g1:G) (h1:H)
def Nx {H:Prop} (u:A) (z:B) (I:C) (L:D) (e1:E) (M:F) (O:G) (h1:H):J9 A B C D E F G H:=⟨u,z,I,L,e1,M,O,h1⟩
def H8 {H:Prop} (z:J9 A B C D E F G H) (h:A->B->C->D->E->F->G->H->p):p:=h z.a1 z.b1 z.c1 z.d1 z.e1 z.f1 z.g1 z.h1
def yJ (kj:Y) (k:q) (h:Y->YW q->p:=by(intro kj ge;(first|refine N8 kj (λgd gn=>?_)|refine M8 kj (λgd gn gt=>?_)|refine L8 kj (λgd gn gt gv=>?_)|refine K8 kj (λgd gn gt gv ka=>?_)|refine J8 kj (λgd gn gt gv ka kz=>?_)|refine I8 kj (λgd gn gt gv ka kz zc7=>?_)|refine H8 kj (λgd gn gt gv ka kz zc7 zc8=>?_));(repeat' (first|refine WZ ?_|refine SG (I2 (λic=>?_) λic=>?_)|refine SG λic=>?_|(refine zG ?_;refine SM ?_)|refine SR ?_|refine SK (I2 (λic=>?_) λic=>?_)|refine SK λic=>?_|fail));(all_goals (repeat revert ic));first|done|(exact ge.h;done)|(exact ge.h.1;exact ge.h.2;done)|(exact ge.h.1;exact ge.h.2.1;exact ge.h.2.2;done)|(exact ge.h.1;exact ge.h.2.1;exact ge.h.2.2.1;exact ge.h.2.2.2;done)|(exact ge.h.1;exact ge.h.2.1;exact ge.h.2.2.1;exact ge.h.2.2.2.1;exact ge.h.2.2.2.2;done)|(exact ge.h.1;exact ge.h.2.1;exact ge.h.2.2.1;exact ge.h.2.2.2.1;exact ge.h.2.2.2.2.1;exact ge.h.2.2.2.2.2;done))):p:=h kj ⟨k⟩
def ld{Y p:Prop}(k:Y)(h:Y->p:=by(intro k;refine yJ k ?_;exact zI)):p:=h k
def zQ (kj:Y) (k:q) (h:Y->YW q->p:=by(intro gd ge;(repeat' (first|refine WZ ?_|refine SG (I2 (λic=>?_) λic=>?_)|refine SG λic=>?_|(refine zG ?_;refine SM ?_)|refine SR ?_|refine SK (I2 (λic=>?_) λic=>?_)|refine SK λic=>?_|fail));(all_goals (repeat revert ic));first|done|(exact ge.h;done)|(exact ge.h.1;exact ge.h.2;done)|(exact ge.h.1;exact ge.h.2.1;exact ge.h.2.2;done)|(exact ge.h.1;exact ge.h.2.1;exact ge.h.2.2.1;exact ge.h.2.2.2;done)|(exact ge.h.1;exact ge.h.2.1;exact ge.h.2.2.1;exact ge.h.2.2.2.1;exact ge.h.2.2.2.2;done)|(exact ge.h.1;exact ge.h.2.1;exact ge.h.2.2.1;exact ge.h.2.2.2.1;exact ge.h.2.2.2.2.1;exact ge.h.2.2.2.2.2;done))):p:=h kj ⟨k⟩
def lk{Y p:Prop}(k:Y)(h:Y->p:=by(intro k;refine zQ k ?_;exact zI)):p:=h k
def MN (kj:Y) (k:q) (h:Y->YW q->p:=by(intro kj ge;(first|refine N8 kj (λgd gn=>?_)|refine M8 kj (λgd gn gt=>?_)|refine L8 kj (λgd gn gt gv=>?_)|refine K8 kj (λgd gn gt gv ka=>?_)|refine J8 kj (λgd gn gt gv ka kz=>?_)|refine I8 kj (λgd gn gt gv ka kz zc7=>?_)|refine H8 kj (λgd gn gt gv ka kz zc7 zc8=>?_));(repeat' (first|refine WY ?_|refine SG (I2 (λic=>?_) λic=>?_)|refine SG λic=>?_|(refine zG ?_;first|refine SL ?_|refine SM ?_)|refine SB ?_|refine SR ?_|refine SK (I2 (λic=>?_) λic=>?_)|refine SK λic=>?_|fail));(all_goals (repeat revert ic));first|done|(exact ge.h;done)|(exact ge.h.1;exact ge.h.2;done)|(exact ge.h.1;exact ge.h.2.1;exact ge.h.2.2;done)|(exact ge.h.1;exact ge.h.2.1;exact ge.h.2.2.1;exact ge.h.2.2.2;done)|(exact ge.h.1;exact ge.h.2.1;exact ge.h.2.2.1;exact ge.h.2.2.2.1;exact ge.h.2.2.2.2;done)|(exact ge.h.1;exact ge.h.2.1;exact ge.h.2.2.1;exact ge.h.2.2.2.1;exact ge.h.2.2.2.2.1;exact ge.h.2.2.2.2.2;done))):p:=h kj ⟨k⟩
def ly{Y p:Prop}(k:Y)(h:Y->p:=by(intro k;refine MN k ?_;exact zI)):p:=h k
def TQ (kj:Y) (k:q) (h:Y->YW q->p:=by(intro gd ge;(repeat' (first|refine WY ?_|refine SG (I2 (λic=>?_) λic=>?_)|refine SG λic=>?_|(refine zG ?_;first|refine SL ?_|refine SM ?_)|refine SB ?_|refine SR ?_|refine SK (I2 (λic=>?_) λic=>?_)|refine SK λic=>?_|fail));(all_goals (repeat revert ic));first|done|(exact ge.h;done)|(exact ge.h.1;exact ge.h.2;done)|(exact ge.h.1;exact ge.h.2.1;exact ge.h.2.2;done)|(exact ge.h.1;exact ge.h.2.1;exact ge.h.2.2.1;exact ge.h.2.2.2;done)|(exact ge.h.1;exact ge.h.2.1;exact ge.h.2.2.1;exact ge.h.2.2.2.1;exact ge.h.2.2.2.2;done)|(exact ge.h.1;exact ge.h.2.1;exact ge.h.2.2.1;exact ge.h.2.2.2.1;exact ge.h.2.2.2.2.1;exact ge.h.2.2.2.2.2;done))):p:=h kj ⟨k⟩
def mx{Y p:Prop}(k:Y)(h:Y->p:=by(intro k;refine TQ k ?_;exact zI)):p:=h k
def W1 (kj:Y) (k:q) (h:Y->YW q->p:=by(intro kj ge;(first|refine N8 kj (λgd gn=>?_)|refine M8 kj (λgd gn gt=>?_)|refine L8 kj (λgd gn gt gv=>?_)|refine K8 kj (λgd gn gt gv ka=>?_)|refine J8 kj (λgd gn gt gv ka kz=>?_)|refine I8 kj (λgd gn gt gv ka kz zc7=>?_)|refine H8 kj (λgd gn gt gv ka kz zc7 zc8=>?_));(repeat' (first|refine WZ ?_|refine SG (I2 (λic=>?_) λic=>?_)|refine SG λic=>?_|(refine zG ?_;refine SM ?_)|refine SX ?_|fail));(all_goals (repeat revert ic));first|done|(exact ge.h;done)|(exact ge.h.1;exact ge.h.2;done)|(exact ge.h.1;exact ge.h.2.1;exact ge.h.2.2;done)|(exact ge.h.1;exact ge.h.2.1;exact ge.h.2.2.1;exact ge.h.2.2.2;done)|(exact ge.h.1;exact ge.h.2.1;exact ge.h.2.2.1;exact ge.h.2.2.2.1;exact ge.h.2.2.2.2;done)|(exact ge.h.1;exact ge.h.2.1;exact ge.h.2.2.1;exact ge.h.2.2.2.1;exact ge.h.2.2.2.2.1;exact ge.h.2.2.2.2.2;done))):p:=h kj ⟨k⟩
def WDo (kj:Y) (k:q) (h:Y->YW q->p:=by(intro gd ge;(repeat' (first|refine WZ ?_|refine SG (I2 (λic=>?_) λic=>?_)|refine SG λic=>?_|(refine zG ?_;refine SM ?_)|refine SX ?_|fail));(all_goals (repeat revert ic));first|done|(exact ge.h;done)|(exact ge.h.1;exact ge.h.2;done)|(exact ge.h.1;exact ge.h.2.1;exact ge.h.2.2;done)|(exact ge.h.1;exact ge.h.2.1;exact ge.h.2.2.1;exact ge.h.2.2.2;done)|(exact ge.h.1;exact ge.h.2.1;exact ge.h.2.2.1;exact ge.h.2.2.2.1;exact ge.h.2.2.2.2;done)|(exact ge.h.1;exact ge.h.2.1;exact ge.h.2.2.1;exact ge.h.2.2.2.1;exact ge.h.2.2.2.2.1;exact ge.h.2.2.2.2.2;done))):p:=h kj ⟨k⟩
def eM {f:Nat} {fn:Func} {body:Code} {args:List AV} (u:ZF prog f) (h:∀F:Fr (xD h0),F.ro=none/\F.it=false->uR prog F fn.ntmps body ⟨QH 0 args,h0⟩ (Fin TT fn.results.toList h0 r h1)) (O:prog.funcs[f]? =some fn:=by exact Z) (hb:fn.body=some body:=by exact Z) (z:Nat.ble (ln args) fn.ntmps=true:=by exact Z) (M:uN h0=true:=by exact Z) (I:uN h1=true:=by exact Z) (L:Nat.ble fn.ntmps GS=true:=by rfl):xR prog f args h0 r h1:=eN O u h hb z M I L
abbrev zO:=xR prog
def MO (h:p:=by(apply uC;(exact zI);simp only[uE,zAk,zAe,zAy,zBd,zBl,zB9,zC2];omega)):p:=h
def KP (h:p:=by(exfalso;omega)):p:=h
def zB (h:p:=by omega):p:=h
def iA (n:Int):AV:= .s (.int .i64 n)
def yA (n:Int):AV:= .s (.int .u8 n)
def bA (b:Bool):AV:= .s (.bool b)
def zD (f:α->AV) (l:List α):AV:= .sl false (l.map f)
structure Cl where
 ag:Int
 id:Int
 ph:Int
 k:Int
 si:Int
structure Sv where
 ph:Int
 gr:Int
 en:List Int
structure Ph where
 ring:Int
 group:Int
 ming:Int
 maxg:Int
 yel:Int
 red:Int
 walk:Int
 clear:Int
structure Jn where
 ph:List Ph
 cf:List Int
 st:Int
structure Ag where
 sec:List Int
 rights:Int
 cls:Int
 lim:List Int
 req:Int
 ses:Int
 rate:Int
 burst:Int
structure Cf where
 js:List Jn
 ags:List Ag
 per:Int
 cap:Int
 hold:Int
 lock:Int
structure Tk where
 used:Bool
 sec:List Int
 par:Int
 rights:Int
 cls:Int
 til:Int
structure Vh where
 id:Int
 cls:Int
structure Bk where
 level:Int
 rate:Int
 burst:Int
structure Rg where
 num:Int
 ag:Ag
 tk:List Tk
 vh:List Vh
 bk:Bk
structure Ms where
 kind:Int
 tok:List Int
 args:List Int
 data:List Int
def kS (c:Cl):AV:= .agg [iA c.ag,iA c.id,iA c.ph,iA c.k,iA c.si]
def xY (s:Sv):AV:= .agg [iA s.ph,iA s.gr,zD iA s.en]
def xQ (p:Ph):AV:= .agg [iA p.ring,iA p.group,iA p.ming,iA p.maxg,iA p.yel,iA p.red,iA p.walk,iA p.clear]
def wD (j:Jn):AV:= .agg [zD xQ j.ph,zD iA j.cf,iA j.st]
def vX (a:Ag):AV:= .agg [zD yA a.sec,iA a.rights,iA a.cls,zD iA a.lim,iA a.req,iA a.ses,iA a.rate,iA a.burst]
def wO (c:Cf):AV:= .agg [zD wD c.js,zD vX c.ags,iA c.per,iA c.cap,iA c.hold,iA c.lock]
def yP (t:Tk):AV:= .agg [bA t.used,zD yA t.sec,iA t.par,iA t.rights,iA t.cls,iA t.til]
def vE (v:Vh):AV:= .agg [iA v.id,iA v.cls]
def Uj (b:Bk):AV:= .agg [iA b.level,iA b.rate,iA b.burst]
def qD (r:Rg):AV:= .agg [iA r.num,zD yA r.ag.sec,iA r.ag.rights,iA r.ag.cls,zD iA r.ag.lim,iA r.ag.req,iA r.ag.ses,iA r.ag.rate,iA r.ag.burst,zD yP r.tk,zD vE r.vh,iA r.bk.level,iA r.bk.rate,iA r.bk.burst]
def yC (m:Ms):AV:= .agg [iA m.kind,zD yA m.tok,zD iA m.args,zD yA m.data]
instance:Inhabited Tk:=⟨⟨false,[],-1,0,0,0⟩⟩
instance:Inhabited Vh:=⟨⟨0,0⟩⟩
instance:Inhabited Cl:=⟨⟨0,0,0,0,0⟩⟩
instance:Inhabited Ph:=⟨⟨0,0,0,0,0,0,0,0⟩⟩
instance:Inhabited Jn:=⟨⟨[],[],0⟩⟩
instance:Inhabited Ag:=⟨⟨[],0,0,[],0,0,0,0⟩⟩
def uC {TT:List TI} {z:List ResultVar} {e:Exit} {st:St} {b u:Bool} (h:Fin TT z h0 (bA u) h1 e st) (hb:u=b):Fin TT z h0 (bA b) h1 e st:=hb▸h
def zJ [Inhabited α] (f:α->AV) (l:List α) (i:Nat) (h:i<ln l):(l.map f)[i]? =some (f (l.getD i dd)):=by simp[List.getD,h]
def yF [Inhabited α] (f:α->AV) (l:List α) (i:Int) (h0:0<=i) (h:i<ln l):(l.map f)[i.toNat]? =some (f (l.getD i.toNat dd)):=zJ f l _ (by omega)
def Wu (v n:Int) (h1:1<=n): -n<v.tmod n/\v.tmod n<n/\v % n=if v.tmod n<0 then v.tmod n+n else v.tmod n:=by
 have u:=zD4 v (show n≠0 by omega);have e1:=zDq v (show 0<n by omega)
 grind [Int.tmod_eq_emod,Int.dvd_of_emod_eq_zero]
def Vn (v n:Int) (h1:1<=n) (h2:n<=1099511627776):xR prog 13 [iA v,iA n] [] (iA (v % n)) []:=by
 obtain⟨u,z,e⟩:=Wu v n h1;by_cases h:v.tmod n<0
 .rw[e,Os h]
  (refine eM call13 λF hF=>?_)
  (repeat' (first|refine XC ?_|refine yZ (λhc=>?_) λhc=>?_|fail))
  exact zI
 .rw[e,Of h]
  (refine eM call13 λF hF=>?_)
  (repeat' (first|refine XC ?_|refine yZ (λhc=>?_) λhc=>?_|fail))
  exact zI
structure Dk where
 l:List Int
 a:Nat
 h:a<=l.length
 hl:l.length<=9223372036854775807
def CO (d:Dk):wB:= .box [zD iA d.l,iA d.a]
def nx (d:Dk) (n:Int):Int:=if d.a<ln d.l then d.l.getD d.a 0 % n else 0
def ad (d:Dk):Dk:=if h:d.a<ln d.l then⟨d.l,d.a+1,h,d.hl⟩else d
def uK (d:Dk) (n:Int) (h1:1<=n):0<=nx d n/\nx d n<n:=by
 unfold nx;split
 .exact⟨zD4 _ (by omega),zDq _ (by omega)⟩
 .omega
def Mx (l:List Int) (hl:ln l<=9223372036854775807):xR prog 11 [zD iA l] [] (.ptr 1000 0 0) [(1000,CO ⟨l,0,zAr _,hl⟩)]:=by
 (refine eM call11 λF hF=>?_)
 repeat' (first|refine wX tok Z Z ?_|(first|apply xK|apply xF|refine vQ Z ?_|refine yM Z ?_|refine yB Z ?_|refine xU Z (λhc=>?_) λhc=>?_|apply xB|apply xG|apply xJ|apply xE)|apply uT|refine qB (fF (v:= .agg _) 1000 Z Z) Z Z Z ?_)
 exact zP [1000] Z Z Z Z
def qU (d:Dk) (n:Int) (h1:1<=n) (h2:n<=1099511627776):xR prog 45 [.ptr 1000 0 0,iA n] [(1000,CO d)] (iA (nx d n)) [(1000,CO (ad d))]:=by
 have hl:(d.l.map iA).length=ln d.l:=by simp
 have hb:=d.hl;by_cases h:d.a<ln d.l
 .have u:=yF iA d.l ((d.a:Int)+1-1) (by omega) (by omega);rw[show nx d n=d.l.getD ((d.a:Int)+1-1).toNat 0 % n by unfold nx;rw[Os h,show((d.a:Int)+1-1).toNat=d.a by omega]];rw[show ad d=⟨d.l,d.a+1,h,d.hl⟩ by unfold ad;rw[zFn h]]
  (refine eM call45 λF hF=>?_)
  (repeat' (first|refine XC ?_|refine yZ (λhc=>?_) λhc=>?_|(apply zG;apply xO;refine yE (zL (Vn _ _ h1 h2) Z Z Z Z Z) Z ?_)|fail))
  exact zP [1000] Z Z Z Z
 .rw[show nx d n=0 by unfold nx;rw[Of h],show ad d=d by unfold ad;rw[dif_neg h]]
  (refine eM call45 λF hF=>?_)
  (repeat' (first|refine XC ?_|refine yZ (λhc=>?_) λhc=>?_|(apply zG;apply xO;refine yE (zL (Vn _ _ h1 h2) Z Z Z Z Z) Z ?_)|fail))
  exact zP [1000] Z Z Z Z
def fE (d:Dk) (lo hi:Int) (h1:0<=lo) (h2:lo<=hi) (u:hi<=1000000000):xR prog 52 [.ptr 1000 0 0,iA lo,iA hi] [(1000,CO d)] (iA (lo+nx d (hi-lo+1))) [(1000,CO (ad d))]:=by
 have hb:=uK d (hi-lo+1) (by omega)
 (refine eM call52 λF hF=>?_)
 (repeat' (first|refine XC ?_|refine yZ (λhc=>?_) λhc=>?_|(apply zG;apply xO;refine qB (zL (qU d _ (by omega) (by omega)) Z Z Z Z Z) Z Z Z ?_)|fail))
 exact zP [1000] Z Z Z Z
structure Lg where
 jn:Int
 ph:Int
 fr:Int
 to:Int
 sc:Int
variable {post ga:List Lg}
structure Rq where
 id:Int
 vh:Int
 cls:Int
 til:Int
 legs:List Lg
instance:Inhabited Lg:=⟨⟨0,0,0,0,0⟩⟩
instance:Inhabited Rq:=⟨⟨0,0,0,0,[]⟩⟩
def yN (l:Lg):AV:= .agg [iA l.jn,iA l.ph,iA l.fr,iA l.to,iA l.sc]
def zX (r:Rq):AV:= .agg [iA r.id,iA r.vh,iA r.cls,iA r.til,zD yN r.legs]
def Lx (j p:Int):Bool:=decide (0<=j/\j<4/\0<=p/\p<8)
def CP (j p f t f4:Int):Bool:=decide (0<=j/\j<4/\0<=p/\p<8/\0<=f4/\f4<=1073741824/\0<=f/\f<=t/\t<=600)
def EO (j p f t f4:Int):Lg:=if CP j p f t f4=true then⟨j,p,f4+f,f4+t,-1⟩else⟨0,0,0,0,0⟩
def NJ (l:Lg):Bool:=decide (0<=l.jn/\l.jn<4/\0<=l.ph/\l.ph<8/\0<=l.fr/\l.fr<=l.to/\l.to<=2147483648/\ -1<=l.sc/\l.sc<=1073741824)
def CQ (l:Lg) (f4:Int):Bool:=decide (l.fr<=f4/\f4<=l.to)
def eP (l:Lg) (f4:Int):Lg:=if CQ l f4=true then(if l.sc= -1 then⟨l.jn,l.ph,l.fr,l.to,f4⟩else l)else⟨l.jn,l.ph,l.fr,l.to,-1⟩
def wg (j p:Int):xR prog 390 [iA j,iA p] [] (bA (Lx j p)) []:=by
 (cases hb:Lx j p with|false=>((refine eM call390 λF hF=>?_);((refine WW (I4 (λhc hc hc=>?_) (λhc hc hc=>?_) (λhc hc=>?_) λhc=>?_)));all_goals (first|exact zI|(simp only[Lx,zAk]at hb;first|(exfalso;omega)|(apply uC;(exact zI);simp only[uE,zAk,zAe,zAy,zBd,zBl,zB9,zC2];omega))))|true=>(simp only[Lx,zAe]at hb;(refine eM call390 λF hF=>?_);((refine WW ?_));all_goals (first|exact zI|(exfalso;omega)|(apply uC;(exact zI);simp only[uE,zAk,zAe,zAy,zBd,zBl,zB9,zC2];omega))))
def kY (n a b:Int):xR prog 336 [iA n,iA a,iA b] [] (bA (decide (a<=n/\n<=b))) []:=by
 cases hb:decide (a<=n/\n<=b)with
 |false=>
  rw[zAk]at hb
  (refine eM call336 λF hF=>?_)
  (refine WW (I2 (λhc=>?_) λhc=>?_))
  all_goals (first|exact zI|(exfalso;omega)|(apply uC;(exact zI);simp only[uE,zAk,zAe,zAy,zBd,zBl,zB9,zC2];omega))
 |true=>
  rw[zAe]at hb
  (refine eM call336 λF hF=>?_)
  (refine WW ?_)
  all_goals (first|exact zI|(exfalso;omega)|(apply uC;(exact zI);simp only[uE,zAk,zAe,zAy,zBd,zBl,zB9,zC2];omega))
def vg (j p f t f4:Int):xR prog 354 [iA j,iA p,iA f,iA t,iA f4] [] (.tup [yN (EO j p f t f4),iA (if CP j p f t f4=true then 0 else 8)]) []:=by
 have u:=wg j p;unfold EO
 cases hb:CP j p f t f4 with
 | false=>
  rw[Of zAp,Of zAp];unfold CP at hb;rw[zAk]at hb;unfold Lx at u;unfold yN;by_cases z:0<=j/\j<4/\0<=p/\p<8
  .rw[zAd z]at u
   (refine eM call354 λF hF=>?_)
   (have gd:=u;refine WW (I5 (λhc=>?_) (λhc hc=>?_) (λhc hc hc=>?_) (λhc hc hc hc=>?_) (λhc hc hc hc=>?_))<;>clear gd)
   all_goals (first|exact zI|(exfalso;omega))
  .rw[zAc z]at u
   (refine eM call354 λF hF=>?_)
   (have gd:=u;refine WW ?_;clear gd)
   all_goals (first|exact zI|(exfalso;omega))
 |true=>
  rw[Os Z,Os Z];unfold CP at hb;rw[zAe]at hb;unfold Lx at u;rw[zAd (by omega)]at u;unfold yN
  (refine eM call354 λF hF=>?_)
  (have gd:=u;refine WW ?_;clear gd)
  exact zI
def ma (j p f t f4:Int):xR prog 332 [iA j,iA p,iA f,iA t,iA f4] [] (.tup [yN (EO j p f t f4),iA (if CP j p f t f4=true then 0 else 8)]) []:=by
 have u:=kY j 0 3;have z:=kY p 0 7;have I:=kY f4 0 1073741824;have L:=kY f 0 t;unfold EO
 cases hb:CP j p f t f4 with
 | false=>
  rw[Of zAp,Of zAp];unfold CP at hb;rw[zAk]at hb;unfold yN;by_cases h1:0<=j/\j<=3
  case neg=>
   rw[zAc h1]at u
   (refine eM call332 λF hF=>?_)
   (have gd:=u;refine WW ?_;clear gd)
   exact zI
  rw[zAd h1]at u;by_cases h2:0<=p/\p<=7
  case neg=>
   rw[zAc h2]at z
   (refine eM call332 λF hF=>?_)
   (have gd:=u;have gn:=z;refine WW ?_;clear gd gn)
   exact zI
  rw[zAd h2]at z;by_cases M:0<=f4/\f4<=1073741824
  case neg=>
   rw[zAc M]at I
   (refine eM call332 λF hF=>?_)
   (have gd:=u;have gn:=z;have gt:=I;refine WW ?_;clear gd gn gt)
   exact zI
  rw[zAd M]at I;by_cases O:0<=f/\f<=t
  case neg=>
   rw[zAc O]at L
   (refine eM call332 λF hF=>?_)
   (have gd:=u;have gn:=z;have gt:=I;have gv:=L;refine WW ?_;clear gd gn gt gv)
   exact zI
  rw[zAd O]at L
  (refine eM call332 λF hF=>?_)
  (have gd:=u;have gn:=z;have gt:=I;have gv:=L;refine WW ?_;clear gd gn gt gv)
  all_goals (first|exact zI|(exfalso;omega))
 |true=>
  rw[Os Z,Os Z];unfold CP at hb;rw[zAe]at hb;rw[zAd (by omega)]at u z I L;unfold yN
  (refine eM call332 λF hF=>?_)
  (have gd:=u;have gn:=z;have gt:=I;have gv:=L;refine WW ?_;clear gd gn gt gv)
  exact zI
def Un (l:Lg) (f4:Int):xR prog 263 [yN l,iA f4] [] (bA (CQ l f4)) []:=by
 (cases hb:CQ l f4 with|false=>((refine eM call263 λF hF=>?_);((refine WW (I2 (λhc=>?_) λhc=>?_)));all_goals (first|exact zI|(simp only[CQ,zAk]at hb;first|(exfalso;omega)|(apply uC;(exact zI);simp only[uE,zAk,zAe,zAy,zBd,zBl,zB9,zC2];omega))))|true=>(simp only[CQ,zAe]at hb;(refine eM call263 λF hF=>?_);((refine WW ?_));all_goals (first|exact zI|(exfalso;omega)|(apply uC;(exact zI);simp only[uE,zAk,zAe,zAy,zBd,zBl,zB9,zC2];omega))))
def ug (l:Lg) (f4:Int):xR prog 288 [yN l,iA f4] [] (bA (CQ l f4)) []:=by
 have c:=kY f4 l.fr l.to;unfold CQ;generalize decide (l.fr<=f4/\f4<=l.to)=b at*
 (refine eM call288 λF hF=>?_)
 (have gd:=c;refine WW ?_;clear gd)
 exact zI
def dR (l:Lg) (f4:Int):xR prog 220 [yN l,iA f4] [] (yN (eP l f4)) []:=by
 have c:=Un l f4;unfold eP;generalize CQ l f4=b at*
 cases b with
 |false=>
  rw[Of zAp];unfold yN at*
  (refine eM call220 λF hF=>?_)
  (have gd:=c;refine WW ?_;clear gd)
  exact zI
 | true=>
  rw[Os Z];by_cases h:l.sc= -1
  .rw[Os h];unfold yN at*
   (refine eM call220 λF hF=>?_)
   (have gd:=c;refine WW ?_;clear gd)
   exact zI
  .rw[Of h];unfold yN at*
   (refine eM call220 λF hF=>?_)
   (have gd:=c;refine WW ?_;clear gd)
   exact zI
def gX (l:Lg) (f4:Int):xR prog 240 [yN l,iA f4] [] (yN (eP l f4)) []:=by
 have c:=ug l f4;unfold eP;generalize CQ l f4=b at*
 cases b with
 |false=>
  rw[Of zAp];unfold yN at*
  (refine eM call240 λF hF=>?_)
  (have gd:=c;refine WW ?_;clear gd)
  exact zI
 | true=>
  rw[Os Z];by_cases h:l.sc= -1
  .rw[Os h];unfold yN at*
   (refine eM call240 λF hF=>?_)
   (have gd:=c;refine WW ?_;clear gd)
   exact zI
  .rw[Of h];unfold yN at*
   (refine eM call240 λF hF=>?_)
   (have gd:=c;refine WW ?_;clear gd)
   exact zI
def Tn (l:Lg):xR prog 414 [yN l] [] (bA (NJ l)) []:=by
 have u:=wg l.jn l.ph
 cases hb:NJ l with
 | false=>
  unfold NJ at hb;rw[zAk]at hb;unfold Lx at u;by_cases z:0<=l.jn/\l.jn<4/\0<=l.ph/\l.ph<8
  .rw[zAd z]at u
   (refine eM call414 λF hF=>?_)
   (have gd:=u;refine WW (I5 (λhc hc hc hc=>?_) (λhc hc hc hc=>?_) (λhc hc hc=>?_) (λhc hc=>?_) λhc=>?_)<;>clear gd)
   all_goals (first|exact zI|(exfalso;omega)|(apply uC;(exact zI);simp only[uE,zAk,zAe,zAy,zBd,zBl,zB9,zC2];omega))
  .rw[zAc z]at u
   (refine eM call414 λF hF=>?_)
   (have gd:=u;refine WW ?_;clear gd)
   all_goals (first|exact zI|(exfalso;omega)|(apply uC;(exact zI);simp only[uE,zAk,zAe,zAy,zBd,zBl,zB9,zC2];omega))
 |true=>
  unfold NJ at hb;rw[zAe]at hb;unfold Lx at u;rw[zAd (by omega)]at u
  (refine eM call414 λF hF=>?_)
  (have gd:=u;refine WW ?_;clear gd)
  all_goals (first|exact zI|(exfalso;omega)|(apply uC;(exact zI);simp only[uE,zAk,zAe,zAy,zBd,zBl,zB9,zC2];omega))
def mi (l:Lg):xR prog 404 [yN l] [] (bA (NJ l)) []:=by
 have u:=kY l.jn 0 3;have z:=kY l.ph 0 7;have I:=kY l.fr 0 l.to;have L:=kY l.sc (-1) 1073741824
 cases hb:NJ l with
 | false=>
  unfold NJ at hb;rw[zAk]at hb;by_cases h1:0<=l.jn/\l.jn<=3
  case neg=>
   rw[zAc h1]at u
   (refine eM call404 λF hF=>?_)
   (have gd:=u;refine WW ?_;clear gd)
   exact zI
  rw[zAd h1]at u;by_cases h2:0<=l.ph/\l.ph<=7
  case neg=>
   rw[zAc h2]at z
   (refine eM call404 λF hF=>?_)
   (have gd:=u;have gn:=z;refine WW ?_;clear gd gn)
   exact zI
  rw[zAd h2]at z;by_cases M:0<=l.fr/\l.fr<=l.to
  case neg=>
   rw[zAc M]at I
   (refine eM call404 λF hF=>?_)
   (have gd:=u;have gn:=z;have gt:=I;refine WW ?_;clear gd gn gt)
   exact zI
  rw[zAd M]at I;by_cases O: -1<=l.sc/\l.sc<=1073741824
  case neg=>
   rw[zAc O]at L
   (refine eM call404 λF hF=>?_)
   (have gd:=u;have gn:=z;have gt:=I;have gv:=L;refine WW (I2 (λhc=>?_) λhc=>?_)<;>clear gd gn gt gv)
   all_goals (first|exact zI|(exfalso;omega))
  rw[zAd O]at L
  (refine eM call404 λF hF=>?_)
  (have gd:=u;have gn:=z;have gt:=I;have gv:=L;refine WW ?_;clear gd gn gt gv)
  all_goals (first|exact zI|(exfalso;omega))
 |true=>
  unfold NJ at hb;rw[zAe]at hb;rw[zAd (by omega)]at u z I L
  (refine eM call404 λF hF=>?_)
  (have gd:=u;have gn:=z;have gt:=I;have gv:=L;refine WW ?_;clear gd gn gt gv)
  all_goals (first|exact zI|(exfalso;omega))
def jG:List Lg->List Lg->Bool
 |_,[]=>true
 |ga,x::post=>NJ x&&(!(ga.any λy=>y.jn==x.jn)&&jG (ga++[x]) post)
def sa (l:List Lg):Bool:=decide (1<=(ln l:Int)/\(ln l:Int)<=3)&&jG [] l
def qg {x:Lg} (h:NJ x=false):jG ga (x::post)=false:=by simp[jG,h]
def jg {x y:Lg} (u:y∈ga) (h:y.jn=x.jn):jG ga (x::post)=false:=by grind [jG]
def GF {x:Lg} (h:NJ x=true) (u:∀y∈ga,y.jn≠x.jn):jG ga (x::post)=jG (ga++[x]) post:=by grind [NJ,jG]
def fg (l:List Lg):xR prog 393 [zD yN l] [] (bA (sa l)) []:=by
 have hl:=zA yN l;unfold sa;by_cases M:1<=(ln l:Int)/\(ln l:Int)<=3
 case neg=>
  rw[zAc M,zA7];by_cases h1:1<=(ln l:Int)
  all_goals
   (refine eM call393 λF hF=>?_)
   exact lc
 rw[zAd M,zAo];obtain⟨h1,M⟩:=M
 (refine eM call393 λF hF=>?_)
 (refine WW ?_)
 (refine qC (l) [] [] [0,15,16] [17,0,15,16] Z (λi ga T U zs=>(∀post,l=ga++post->jG [] l=jG ga post)/\zs=⟨(17,iA i)::T,U⟩) (Lp ?_ ?_ ?_))
 .exact⟨λpost h=>by rw[h];rfl,rfl⟩
 .rintro i ga x post st hx hi ⟨hp,rfl⟩;have hy:=yI yN hx hi;have ar:=zV hx hi;rw[hp _ hx];have L:=Tn x
  have u:NJ x=true->(∀y∈ga,y.jn≠x.jn)->∀p,l=(ga++[x])++p->jG ga (x::post)=jG (ga++[x]) p:=λa b p h=>by
   have e:p=post:=by rw[hx,zA0]at h;simpa using h.symm
   rw[e];exact GF a b
  cases hv:NJ x with
  |false=>
   rw[qg hv];rw[hv]at L;clear hx hp u
   (have gd:=L;refine WW ?_;clear gd)
   exact zI
  | true=>
   rw[hv]at L;have V:l.take i=ga:=by rw[hx,<-hi];simp
   have ag:(List.map yN (ny (i:Int).toNat l)).length=(l.take i).length:=zA yN (l.take i);have ap:(l.take i).length=i:=by rw[V];exact hi
   (have gd:=L;refine WW ?_;clear gd)
   (refine qC (l.take i) [4] [4] [0,4,15,16,17,27,28] [29,0,4,15,16,17,27,28] Z (λi ga T U zs=>(∀y∈ga,y.jn≠x.jn)/\zs=⟨(29,iA i)::T,U⟩) (Lp ?_ ?_ ?_))
   .exact⟨by simp,rfl⟩
   .rintro k pr y po W I hk ⟨hp2,rfl⟩;have au:=yI yN I hk;have ac:=zV I hk;by_cases he:y.jn=x.jn
    .rw[jg (by rw[<-V,I];simp) he];clear I hx hp u
     exact lc
    .have S:∀z∈pr++[y],z.jn≠x.jn:=λz O=>by
      simp only[zA5,zBf]at O
      rcases O with O|rfl
      .exact hp2 z O
      .exact he
     clear I hx hp u
     (refine WW ?_)
     exact⟨S,rfl⟩
   .rintro W ⟨hp2,rfl⟩;have R:=u hv (by rw[<-V];exact hp2);clear hx hp u
    (refine WW ?_)
    exact⟨R,rfl⟩
 .rintro st ⟨hp,rfl⟩;rw[hp [] zW]
  exact lc
def wS (n a b:Int):xR prog 373 [iA n,iA a,iA b] [] (bA (decide (a<=n/\n<=b))) []:=by
 cases hb:decide (a<=n/\n<=b)with
 |false=>
  rw[zAk]at hb
  (refine eM call373 λF hF=>?_)
  (refine WW (I2 (λhc=>?_) λhc=>?_))
  all_goals (first|exact zI|(exfalso;omega)|(apply uC;(exact zI);simp only[uE,zAk,zAe,zAy,zBd,zBl,zB9,zC2];omega))
 |true=>
  rw[zAe]at hb
  (refine eM call373 λF hF=>?_)
  (refine WW ?_)
  all_goals (first|exact zI|(exfalso;omega)|(apply uC;(exact zI);simp only[uE,zAk,zAe,zAy,zBd,zBl,zB9,zC2];omega))
def EP (l:List Lg) (hn:ln l<=1000000):xR prog 374 [zD yN l] [] (bA (sa l)) []:=by
 have hl:=zA yN l;have cw:=wS ((l.map yN).length:Int) 1 3;have e:decide (1<=((l.map yN).length:Int)/\((l.map yN).length:Int)<=3)=decide (1<=(ln l:Int)/\(ln l:Int)<=3):=by rw[hl]
 rw[e]at cw;clear e;unfold sa
 (refine eM call374 λF hF=>?_)
 (refine WW ?_)
 (refine qC (l) [] [] [0,7,8] [9,0,7,8] Z (λi ga T U W=>(∀post,l=ga++post->jG [] l=jG ga post)/\W=⟨(9,iA i)::T,U⟩) (Lp ?_ ?_ ?_))
 .exact⟨λpost h=>by rw[h];rfl,rfl⟩
 .rintro i ga x post st hx hi ⟨hp,rfl⟩;have hy:=yI yN hx hi;have ar:=zV hx hi;rw[hp _ hx];have L:=mi x
  have u:NJ x=true->(∀y∈ga,y.jn≠x.jn)->∀p,l=(ga++[x])++p->jG ga (x::post)=jG (ga++[x]) p:=λa b p h=>by
   have e:p=post:=by rw[hx,zA0]at h;simpa using h.symm
   rw[e];exact GF a b
  cases hv:NJ x with
  |false=>
   rw[qg hv,zCa];rw[hv]at L;clear hx hp u
   (have gd:=L;refine WW ?_;clear gd)
   exact zI
  | true=>
   rw[hv]at L;have S:l.take i=ga:=by rw[hx,<-hi];simp
   have ag:(List.map yN (ny (i:Int).toNat l)).length=(l.take i).length:=zA yN (l.take i);have ap:(l.take i).length=i:=by rw[S];exact hi
   (have gd:=L;refine WW ?_;clear gd)
   (refine qC (l.take i) [4] [4] [0,4,7,8,9,19,20] [21,0,4,7,8,9,19,20] Z (λi ga T U W=>(∀y∈ga,y.jn≠x.jn)/\W=⟨(21,iA i)::T,U⟩) (Lp ?_ ?_ ?_))
   .exact⟨by simp,rfl⟩
   .rintro k pr y po V I hk ⟨hp2,rfl⟩;have au:=yI yN I hk;have ac:=zV I hk;by_cases he:y.jn=x.jn
    .rw[jg (by rw[<-S,I];simp) he,zCa];clear I hx hp u
     exact lc
    .have R:∀z∈pr++[y],z.jn≠x.jn:=λz M=>by
      simp only[zA5,zBf]at M
      rcases M with M|rfl
      .exact hp2 z M
      .exact he
     clear I hx hp u
     (refine WW ?_)
     exact⟨R,rfl⟩
   .rintro V ⟨hp2,rfl⟩;have O:=u hv (by rw[<-S];exact hp2);clear hx hp u
    (refine WW ?_)
    exact⟨O,rfl⟩
 .rintro st ⟨hp,rfl⟩;rw[hp [] zW,show jG l []=true from rfl,zC3];generalize decide (1<=(ln l:Int)/\(ln l:Int)<=3)=b at*
  (have gd:=cw;refine WW ?_;clear gd)
  exact zI
structure I9 (r:Rq):Prop where
 i0:0<=r.id
 i1:r.id<=4294967295
 v0:0<=r.vh
 v1:r.vh<=4294967295
 c0:0<=r.cls
 c1:r.cls<=3
 t0:0<=r.til
 t1:r.til<=2147483648
 lg:sa r.legs=true
structure bW (l:List Rq):Prop where
 ok:∀r∈l,I9 r
 so:l.Pairwise λa b=>a.id<b.id
 n4:l.length<=4
theorem bW.lt {l:List Rq} (h:bW l) {i:Nat} (h0:0<i) (hi:i<ln l):(l.getD (i-1) dd).id<(l.getD i dd).id:=by
 have:=List.pairwise_iff_getElem.1 h.so (i-1) i (by omega) hi (by omega)
 grind
def VR {l:List Lg} (h:sa l=true):1<=(ln l:Int)/\(ln l:Int)<=3:=by grind [sa]
def KQ (n:Int):xR prog 391 [iA n] [] (bA (decide (0<=n/\n<=4294967295))) []:=by
 cases hb:decide (0<=n/\n<=4294967295)with
 |false=>(rw[zAk]at hb;(refine eM call391 λF hF=>?_);((refine WW (I2 (λhc=>?_) λhc=>?_)));all_goals (first|exact zI|(exfalso;omega)|(apply uC;(exact zI);simp only[uE,zAk,zAe,zAy,zBd,zBl,zB9,zC2];omega)))
 |true=>(rw[zAe]at hb;(refine eM call391 λF hF=>?_);((refine WW ?_));all_goals (first|exact zI|(exfalso;omega)|(apply uC;(exact zI);simp only[uE,zAk,zAe,zAy,zBd,zBl,zB9,zC2];omega)))
def Jd (n:Int):xR prog 392 [iA n] [] (bA (decide (0<=n/\n<=3))) []:=by
 cases hb:decide (0<=n/\n<=3)with
 |false=>(rw[zAk]at hb;(refine eM call392 λF hF=>?_);((refine WW (I2 (λhc=>?_) λhc=>?_)));all_goals (first|exact zI|(exfalso;omega)|(apply uC;(exact zI);simp only[uE,zAk,zAe,zAy,zBd,zBl,zB9,zC2];omega)))
 |true=>(rw[zAe]at hb;(refine eM call392 λF hF=>?_);((refine WW ?_));all_goals (first|exact zI|(exfalso;omega)|(apply uC;(exact zI);simp only[uE,zAk,zAe,zAy,zBd,zBl,zB9,zC2];omega)))
def bg (n:Int):xR prog 357 [iA n] [] (bA (decide (0<=n/\n<=1073741824))) []:=by
 cases hb:decide (0<=n/\n<=1073741824)with
 |false=>(rw[zAk]at hb;(refine eM call357 λF hF=>?_);((refine WW (I2 (λhc=>?_) λhc=>?_)));all_goals (first|exact zI|(exfalso;omega)|(apply uC;(exact zI);simp only[uE,zAk,zAe,zAy,zBd,zBl,zB9,zC2];omega)))
 |true=>(rw[zAe]at hb;(refine eM call357 λF hF=>?_);((refine WW ?_));all_goals (first|exact zI|(exfalso;omega)|(apply uC;(exact zI);simp only[uE,zAk,zAe,zAy,zBd,zBl,zB9,zC2];omega)))
def QD (l:List Rq) (q:Int) (hv:bW l) (hq:(ln l:Int)<=q):xR prog 356 [zD zX l,iA q] [] (bA true) []:=by
 have hl:=zA zX l;have h4:=hv.n4
 (refine eM call356 λF hF=>?_)
 (refine WW ?_)
 (refine zN (ln l) [] [] [0,16,17] [18,0,16,17] Z (λi T U=>⟨(18,iA i)::T,U⟩) (Lq ?_ ?_))
 .intro i hi;have hy:=zJ zX l i hi;have I:l.getD i dd∈l:=by simp[oj,hi]
  obtain⟨i0,i1,v0,v1,c0,c1,t0,t1,S⟩:=hv.ok _ I;have L:=KQ (l.getD i dd).id;have M:=KQ (l.getD i dd).vh;have O:=Jd (l.getD i dd).cls;have R:=fg (l.getD i dd).legs;rw[zAd (by omega)]at L M O;rw[S]at R;by_cases z:0<i
  .have u:=yF zX l ((i:Int)-1) (by omega) (by omega);rw[show((i:Int)-1).toNat=i-1 by omega]at u;have W:(l.map zX)[((i:Int)-1).toNat]? =some (zX (l.getD (i-1) dd)):=by rw[show((i:Int)-1).toNat=i-1 by omega];exact u
   have V:=hv.lt z hi;clear u I S;generalize l.getD i dd=t,l.getD (i-1) dd=p at *
   (have gd:=L;have gn:=M;have gt:=O;have gv:=R;refine WW ?_;clear gd gn gt gv)
   rfl
  .obtain rfl:i=0:=by omega
   clear I S;generalize l.getD 0 dd=t at*
   (have gd:=L;have gn:=M;have gt:=O;have gv:=R;refine WW ?_;clear gd gn gt gv)
   rfl
 .exact lc
def VS (l:List Rq) (q:Int) (hv:bW l) (hq:(ln l:Int)<=q):xR prog 335 [zD zX l,iA q] [] (bA true) []:=by
 have hl:=zA zX l;have h4:=hv.n4
 (refine eM call335 λF hF=>?_)
 (refine WW ?_)
 (refine zN (ln l) [] [] [0,1,7,8] [9,0,1,7,8] Z (λi T U=>⟨(9,iA i)::T,U⟩) (Lq ?_ ?_))
 .intro i hi;have hy:=zJ zX l i hi;have L:l.getD i dd∈l:=by simp[oj,hi]
  obtain⟨i0,i1,v0,v1,c0,c1,t0,t1,z⟩:=hv.ok _ L;have M:=wS (l.getD i dd).id 0 4294967295;have O:=wS (l.getD i dd).vh 0 4294967295;have R:=wS (l.getD i dd).cls 0 3;have V:=wS (l.getD i dd).til 0 2147483648;have S:=EP (l.getD i dd).legs (by have:=VR z;omega);rw[zAd (by omega)]at M O R V;rw[z]at S;by_cases I:0<i
  .have u:=yF zX l ((i:Int)-1) (by omega) (by omega);rw[show((i:Int)-1).toNat=i-1 by omega]at u;have ac:(l.map zX)[((i:Int)-1).toNat]? =some (zX (l.getD (i-1) dd)):=by rw[show((i:Int)-1).toNat=i-1 by omega];exact u
   have W:=hv.lt I hi;clear u L z;generalize l.getD i dd=t,l.getD (i-1) dd=p at *
   (have gd:=M;have gn:=O;have gt:=R;have gv:=V;have ka:=S;refine WW ?_;clear gd gn gt gv ka)
   rfl
  .obtain rfl:i=0:=by omega
   clear L z;generalize l.getD 0 dd=t at*
   (have gd:=M;have gn:=O;have gt:=R;have gv:=V;have ka:=S;refine WW ?_;clear gd gn gt gv ka)
   rfl
 .exact lc
def EQ (n:Int) (i:Nat):Int:=IntKind.u8.wrap (BitVec.ofInt IntKind.u8.bits (IntKind.u8.wrap ((IntKind.u64.wrap n).fdiv (2 ^ (min (8*(i:Int)).toNat IntKind.u64.bits)))) ^^^ BitVec.ofInt IntKind.u8.bits (29*(i:Int)+7)).toNat
def Id (n:Int):List Int:=(nm 8).map (EQ n)
def Sn (n:Int):xR prog 16 [iA n] [] (zD yA (Id n)) []:=by
 have I:∀i:Nat,((nm i).map (EQ n)).map yA=((nm i).map (EQ n)).map yA:=λ_=>rfl
 (refine eM call16 λF hF=>?_)
 (repeat' (first|refine XC ?_|refine yZ (λhc=>?_) λhc=>?_|fail))
 refine zS 3 1001 1 Z Z Z ?_
 refine wF (λk st=>∃i:Nat,k+i=8/\st=⟨[(0,iA n),(3,.ref 1001 0 (((nm i).map (EQ n)).map yA).length),(5,iA i)],[(1001,.arr 1 (((nm i).map (EQ n)).map yA) true)]⟩)
  8 [1001] [0,3,5] Z ⟨0,rfl,rfl⟩ ?_
 rintro k st ⟨i,hi,rfl⟩;by_cases u:i<8
 .have z:((nm (i+1)).map (EQ n)).map yA=((nm i).map (EQ n)).map yA++[yA (EQ n i)]:=by rw[zCf];simp
  have hs:((nm i).map (EQ n)).length=i:=by simp
  (repeat' (first|refine XC ?_|refine yZ (λhc=>?_) λhc=>?_|fail))
  exact⟨k-1,by omega,i+1,by omega,by rw[z];rfl⟩
 .obtain rfl:i=8:=by omega
  (repeat' (first|refine XC ?_|refine yZ (λhc=>?_) λhc=>?_|fail))
  exact zH [] Z Z (zAv (AV.sl false) zAb) Z
def Hr (d:Dk):Dk:=ad (ad (ad (ad (ad (ad (ad d))))))
def Rn (d:Dk) (z u:Int):Ag:=⟨Id (1000+z),u,3,[1+nx d (3-1+1),1+nx (ad d) (3-1+1),nx (ad (ad d)) 3,nx (ad (ad (ad d))) 3],1+nx (ad (ad (ad (ad d)))) (3-1+1),1+nx (ad (ad (ad (ad (ad d))))) (2-1+1),
 1+nx (ad (ad (ad (ad (ad (ad d)))))) (3-1+1),1+nx (ad (ad (ad (ad (ad (ad d)))))) (3-1+1)+nx (Hr d) 5⟩
def Qn (d:Dk) (z u:Int) (h0:0<=z) (h1:z<=1000):xR prog 54 [.ptr 1000 0 0,iA z,iA u] [(1000,CO d)] (vX (Rn d z u)) [(1000,CO (ad (Hr d)))]:=by
 have hb:=uK (ad (ad (ad (ad (ad (ad d)))))) (3-1+1) (by omega);have L:=uK (Hr d) 5 (by omega);have I:=Sn (1000+z);unfold Rn Hr at *;generalize Id (1000+z)=M at*
 (refine eM call54 λF hF=>?_)
 (repeat' (first|refine XC ?_|refine yZ (λhc=>?_) λhc=>?_|(apply zG;apply xO;(first|(refine vG 16 ?_;first|refine yE (zL (I) Z Z Z Z Z) Z ?_|refine qB (zL (I) Z Z Z Z Z) Z Z Z ?_|refine ZR (zL (I) Z Z Z Z Z) Z Z Z ?_)|(refine vG 52 ?_;first|refine yE (zL (fE _ _ _ (by omega) (by omega) (by omega)) Z Z Z Z Z) Z ?_|refine qB (zL (fE _ _ _ (by omega) (by omega) (by omega)) Z Z Z Z Z) Z Z Z ?_|refine ZR (zL (fE _ _ _ (by omega) (by omega) (by omega)) Z Z Z Z Z) Z Z Z ?_)|(refine vG 45 ?_;first|refine yE (zL (qU _ _ (by omega) (by omega)) Z Z Z Z Z) Z ?_|refine qB (zL (qU _ _ (by omega) (by omega)) Z Z Z Z Z) Z Z Z ?_|refine ZR (zL (qU _ _ (by omega) (by omega)) Z Z Z Z Z) Z Z Z ?_)))|fail))
 exact zP [1000] Z Z Z Z
