/- Part 5. -/
import Derived.Test.YteajjdidebfcjaaGreatV04
namespace Go.Proofs.YteajjdidebfcjaaGreat
namespace Av
open Tryz
set_option linter.all false
set_option maxRecDepth 4000
set_option maxHeartbeats 4000000
structure ZM (q:Prop):Prop where
 h:q
structure FzD (n:Nat) (K ts:List Nat):Prop where
def I2 {a b:Prop} (x:a) (y:b):a/\b:=⟨x,y⟩
def I4 {a b c d:Prop} (x:a) (y:b) (z:c) (u:d):a/\b/\c/\d:=⟨x,y,z,u⟩
def I5 {a b c d e:Prop} (x:a) (y:b) (z:c) (u:d) (v:e):a/\b/\c/\d/\e:=⟨x,y,z,u,v⟩
def I6 {a b c d e f:Prop} (x:a) (y:b) (z:c) (u:d) (v:e) (w:f):a/\b/\c/\d/\e/\f:=⟨x,y,z,u,v,w⟩
section
variable {P:Program} {K0:List Nat} {F:Fr K0} {m:Nat} {ops:Array Oper} {rest:List Oper} {Q:List FP->St->Prop} {dr:Bool} {fs:List FP} {ty t:Nat} {pos:String} {after:Array Edge} {st:St}
def zTc {n:Nat} {az0:List AV} {h0:List (Nat×xN)} {r:AV} {h1:List (Nat×xN)} (_:xP P n az0 h0 r h1) {az:Array Operand} {ts:Array Nat} (hk:yE P F m ops dr (⟨some t,.call ⟨.value (.func n),az,ts⟩,ty,pos,after,none⟩::rest) st fs Q):yE P F m ops dr (⟨some t,.call ⟨.value (.func n),az,ts⟩,ty,pos,after,none⟩::rest) st fs Q:=hk
def zAh {n:Nat} {K ts:List Nat} (_:FzD n K ts) {az:Array Operand} {tz:Array Nat} (hk:yE P F m ops dr (⟨some t,.call ⟨.value (.func n),az,tz⟩,ty,pos,after,none⟩::rest) st fs Q):yE P F m ops dr (⟨some t,.call ⟨.value (.func n),az,tz⟩,ty,pos,after,none⟩::rest) st fs Q:=hk
def OI {tm:List (Nat×AV)} {h:List (Nat×xN)} {Q:List FP->St->Prop} {n:Nat} {K ts:List Nat} (_:FzD n K ts) (hK:K0.all (K.contains ·)=true) (h1:eO K (zC h) tm ts λT=>fD K (zC h) K λU=>yE P F m ops false rest ⟨T,U⟩ fs Q):yE P F m ops false rest ⟨tm,h⟩ fs Q:=wJ K ts hK h1
end
def CC {p q:Prop} (k:q) (h:ZM q->p:=by(intro zq9;(((first|refine zTc zc ?_|refine LU ?_);first|refine zP (zH (zc) Z Z Z Z Z) Z ?_|refine qE (zH (zc) Z Z Z Z Z) Z Z Z ?_|refine ZJ (zH (zc) Z Z Z Z Z) Z Z Z ?_|refine zP (jI (zc) Z Z Z Z Z) Z ?_|refine qE (jI (zc) Z Z Z Z Z) Z Z Z ?_));exact zq9.h)):p:=h ⟨k⟩
def PT {p q:Prop} (k:q) (h:ZM q->p:=by(intro zq9;(first|refine wL tok Z Z ?_|(refine fI ?_;first|refine IK Z Z ?_|refine TE Z Z Z Z ?_)|(refine xM ?_;first|refine zP (jG Z Z Z (by unfold bK;omega)) Z ?_|refine zP (jH Z Z Z (by unfold bK;omega)) Z ?_|refine zP (dG Z Z Z) Z ?_|refine zP (jY Z Z ⟨by omega,by omega⟩) Z ?_|refine zP (dK Z Z ⟨by omega,by omega⟩) Z ?_|refine zP (jZ Z Z ⟨by omega,by omega⟩) Z ?_|refine zP (dL Z Z fJ (by omega)) Z ?_|refine zP (dM Z Z (by omega)) Z ?_|refine zP (dN Z Z) Z ?_|refine zP (gR Z Z (by omega)) Z ?_|refine zP (gS Z Z (by omega)) Z ?_|refine zP (wH (.inl ⟨rfl,rfl⟩) Z Z (by omega)) Z ?_|refine zP (wH (.inr ⟨rfl,rfl⟩) Z Z (by omega)) Z ?_|refine zP (vB tok Z Z Z Z (.inl ⟨rfl,rfl⟩)) Z ?_|refine zP (vB tok Z Z Z Z (.inr ⟨rfl,rfl⟩)) Z ?_|refine zP (kK tok (.inl ⟨rfl,rfl⟩) Z Z Z) Z ?_|refine zP (yG tok (.inl ⟨rfl,rfl⟩) Z Z Z Z) Z ?_|refine zP (gO Z Z) Z ?_|refine zP (kG Z Z) Z ?_|refine zP (gP Z Z) Z ?_|refine zP (kL Z Z fJ) Z ?_|refine zP (kS Z Z) Z ?_|refine zP (kM Z Z fJ) Z ?_|refine zP (kT Z Z) Z ?_)|(refine aS ?_;first|refine zP (wS tok Z Z Z Z Z (by omega) xY Z Z) Z ?_|refine zP (wP tok Z Z Z Z Z Z (by omega) (by omega) Z) Z ?_|refine zP (wD tok Z Z Z Z Z Z (by omega) (by omega)) Z ?_)|(refine dJ ?_;first|refine zP (uV tok Z Z Z xY Z) Z ?_|refine zP (uU tok Z Z Z xY Z) Z ?_|refine zP (uD tok Z Z Z Z xY Z) Z ?_|refine zP (uC tok Z Z Z Z xY Z) Z ?_)|(refine aT ?_;first|refine zP (wC tok Z Z Z Z Z Z Z Z) Z ?_|refine zP (wR tok Z xY Z Z Z Z Z Z) Z ?_)|(refine yD ?_;first|refine xF tok Z Z Z Z Z Z Z (by first|(intro y hy;cases hy;rfl)|exact zN _ _ (λ_=>rfl)) Z Z Z (by first|omega|(simp;done)|(simp;omega)) Z ?_|refine uF tok Z Z Z Z Z Z Z Z Z Z Z (by first|(intro y hy;cases hy;rfl)|exact zN _ _ (λ_=>rfl)) (by first|omega|(simp;done)|(simp;omega)) Z ?_)|(refine bU ?_;first|refine zP (dO Z ⟨by omega,by omega⟩) Z ?_)|(refine dH ?_;first|refine zP (qL tok Z Z Z Z ⟨by omega,by omega⟩) Z ?_|refine zP (jV tok Z Z Z Z) Z ?_|refine zP (qM tok Z Z Z Z Z Z Z xY) Z ?_)|(refine uB ?_;first|refine gQ tok Z Z Z Z Z (by first|(intro y hy;cases hy;rfl)|exact zN _ _ (λ_=>rfl)|assumption|(simp;done)) (by omega) xX TF Z ?_|refine cJ tok Z Z Z Z Z (by first|(intro y hy;cases hy;rfl)|exact zN _ _ (λ_=>rfl)|assumption|(simp;done)) (by omega) xX TG Z ?_|refine dI tok Z Z Z Z Z Z (by first|(intro y hy;cases hy;rfl)|exact zN _ _ (λ_=>rfl)|assumption|(simp;done)) (by omega) (by omega) (by first|omega|(simp;omega)) TH Z ?_));exact zq9.h)):p:=h ⟨k⟩
def SB {p q:Prop} (k:q) (h:ZM q->p:=by(intro zq9;refine zE ?_;(first|(refine cG ?_;refine zP (xV Z Z Z) Z ?_)|refine jX tok Z Z Z Z ?_|(refine gC ?_;first|refine aY tok Z Z Z Z Z Z ?_|refine jF tok Z Z Z ?_|refine aO tok Z Z Z xY Z Z Z Z Z Z ?_|refine cH tok Z Z Z xY Z Z Z Z Z Z Z Z ?_)|refine uI ?_|refine eU VJ ?_);exact zq9.h)):p:=h ⟨k⟩
def SC {p q:Prop} (k:q) (h:ZM q->p:=by(intro zq9;((first|(refine zAh zf1 ?_;refine OI zf1 Z ?_;(conv=>whnf);(try simp only[zYq,zX6]))|(refine zAh zf2 ?_;refine OI zf2 Z ?_;(conv=>whnf);(try simp only[zYq,zX6]))|(refine zAh zf3 ?_;refine OI zf3 Z ?_;(conv=>whnf);(try simp only[zYq,zX6]))|skip);first|(have zc:=zc1;refine CC ?_;clear zc)|(have zc:=zc2;refine CC ?_;clear zc)|(have zc:=zc3;refine CC ?_;clear zc)|(have zc:=zc4;refine CC ?_;clear zc)|(have zc:=zc5;refine CC ?_;clear zc)|(have zc:=zc6;refine CC ?_;clear zc)|(have zc:=zc7;refine CC ?_;clear zc)|(have zc:=zc8;refine CC ?_;clear zc)|(have zc:=zc9;refine CC ?_;clear zc)|(have zc:=zc10;refine CC ?_;clear zc)|(have zc:=zc11;refine CC ?_;clear zc)|(have zc:=zc12;refine CC ?_;clear zc)|(have zc:=zc13;refine CC ?_;clear zc)|(have zc:=zc14;refine CC ?_;clear zc)|(have zc:=zc15;refine CC ?_;clear zc)|(have zc:=zc16;refine CC ?_;clear zc)|fail);exact zq9.h)):p:=h ⟨k⟩
def WZ {p q:Prop} (k:q) (h:ZM q->p:=by(intro zq9;(repeat1' (first|(refine zE ?_;first|refine PT ?_|(refine xJ ?_;refine SC ?_)|refine SB ?_)|refine xS ?_|refine xC ?_|refine yZ ?_|refine xB ?_));exact zq9.h)):p:=h ⟨k⟩
def WS {p q:Prop} (k:q) (h:ZM q->p:=by(intro zq9;(repeat1' (first|(refine zE ?_;first|refine PT ?_|(refine xJ ?_;refine SC ?_)|refine SB ?_)));exact zq9.h)):p:=h ⟨k⟩
def WV {p q:Prop} (k:q) (h:ZM q->p:=by(intro zq9;(repeat1' (first|(refine zE ?_;first|refine PT ?_|(refine xJ ?_;refine SC ?_)|((fail_if_success refine xR ?_);refine SB ?_))));exact zq9.h)):p:=h ⟨k⟩
def WY {p q:Prop} (k:q) (h:ZM q->p:=by(intro zq9;(repeat1' (first|(refine zE ?_;first|refine PT ?_|(refine xJ ?_;refine SC ?_)|((fail_if_success refine xR ?_);refine SB ?_))|refine xS ?_|refine xC ?_|refine yZ ?_|refine xB ?_));exact zq9.h)):p:=h ⟨k⟩
def WT {p q:Prop} (k:q) (h:ZM q->p:=by(intro zq9;(repeat1' (first|(refine zE ?_;first|refine PT ?_|(refine xJ ?_;refine SC ?_)|((fail_if_success refine gC ?_);refine SB ?_))|refine xS ?_|refine xC ?_|refine yZ ?_|refine xB ?_));exact zq9.h)):p:=h ⟨k⟩
def SG {p q:Prop} (k:q) (h:ZM q->p:=by(intro zq9;refine zE ?_;refine fI ?_;((refine kO Z Z (λzh9=>?_) λzh9=>?_)<;>(try simp only[qQ,zX9,zYj,zZb,zZ7,yBe,zZ4,zY6,zZa,yBm,yBl,yAi]at zh9));(all_goals (repeat revert zh9));first|done|(exact zq9.h;done)|(exact zq9.h.1;exact zq9.h.2;done)|(exact zq9.h.1;exact zq9.h.2.1;exact zq9.h.2.2;done)|(exact zq9.h.1;exact zq9.h.2.1;exact zq9.h.2.2.1;exact zq9.h.2.2.2;done)|(exact zq9.h.1;exact zq9.h.2.1;exact zq9.h.2.2.1;exact zq9.h.2.2.2.1;exact zq9.h.2.2.2.2;done)|(exact zq9.h.1;exact zq9.h.2.1;exact zq9.h.2.2.1;exact zq9.h.2.2.2.1;exact zq9.h.2.2.2.2.1;exact zq9.h.2.2.2.2.2;done))):p:=h ⟨k⟩
def SK {p q:Prop} (k:q) (h:ZM q->p:=by(intro zq9;((refine xH Z (λzh9=>?_) λzh9=>?_)<;>(try simp only[qQ,zX9,zYj,zZb,zZ7,yBe,zZ4,zY6,zZa,yBm,yBl,yAi]at zh9));(all_goals (repeat revert zh9));first|done|(exact zq9.h;done)|(exact zq9.h.1;exact zq9.h.2;done)|(exact zq9.h.1;exact zq9.h.2.1;exact zq9.h.2.2;done)|(exact zq9.h.1;exact zq9.h.2.1;exact zq9.h.2.2.1;exact zq9.h.2.2.2;done)|(exact zq9.h.1;exact zq9.h.2.1;exact zq9.h.2.2.1;exact zq9.h.2.2.2.1;exact zq9.h.2.2.2.2;done)|(exact zq9.h.1;exact zq9.h.2.1;exact zq9.h.2.2.1;exact zq9.h.2.2.2.1;exact zq9.h.2.2.2.2.1;exact zq9.h.2.2.2.2.2;done))):p:=h ⟨k⟩
def SM {p q:Prop} (k:q) (h:ZM q->p:=by(intro zq9;((refine eP ?_;refine zI9 tok Z Z Z Z Z Z Z Z Z Z Z Z Z (by omega) (by omega) Z Z Z ?_));exact zq9.h)):p:=h ⟨k⟩
def SL {p q:Prop} (k:q) (h:ZM q->p:=by(intro zq9;(first|(refine xR ?_;refine bV tok Z Z ?_)|(refine yD ?_;refine vA tok Z Z Z Z Z Z (by first|(intro y hy;cases hy;rfl)|exact zN _ _ (λ_=>rfl)) Z Z Z (by first|omega|(simp;done)|(simp;omega)) Z ?_));exact zq9.h)):p:=h ⟨k⟩
def SR {p q:Prop} (k:q) (h:ZM q->p:=by(intro zq9;(first|refine xS ?_|refine xC ?_|refine vQ Z ?_|refine yC Z ?_|refine zU Z ?_|refine yZ ?_|refine yU ?_|refine xB ?_|refine yQ ?_);exact zq9.h)):p:=h ⟨k⟩
def SX {p q:Prop} (k:q) (h:ZM q->p:=by(intro zq9;(first|refine xS ?_|refine xC ?_|refine yC Z ?_|refine zU Z ?_|refine yZ ?_|refine yU ?_|refine xB ?_);exact zq9.h)):p:=h ⟨k⟩
def SN {p q:Prop} (k:q) (h:ZM q->p:=by(intro zq9;(first|refine xS ?_|refine xC ?_|refine vQ Z ?_|refine yC Z ?_|refine zU Z ?_|refine yZ ?_|refine xB ?_|refine yQ ?_);exact zq9.h)):p:=h ⟨k⟩
def SQ {p q:Prop} (k:q) (h:ZM q->p:=by(intro zq9;(first|refine xS ?_|refine xC ?_|refine vQ Z ?_|refine yZ ?_|refine yU ?_|refine xB ?_);exact zq9.h)):p:=h ⟨k⟩
structure One (a:Prop):Prop where
 x:a
structure Two (a b:Prop):Prop where
 x:a
 y:b
def wB {a:Prop} (x:a):One a:=⟨x⟩
def xL {a b:Prop} (x:a) (y:b):Two a b:=⟨x,y⟩
def YG {p a b:Prop} (k:Two a b) (h:a->b->p:=by(intro zx8 zy8;refine zE ?_;refine fI ?_;((refine kO Z Z (λzh9=>?_) λzh9=>?_)<;>(try simp only[qQ,zX9,zYj,zZb,zZ7,yBe,zZ4,zY6,zZa,yBm,yBl,yAi]at zh9));(all_goals (repeat revert zh9));exact zx8;exact zy8)):p:=h k.x k.y
def YG1 {p a:Prop} (k:One a) (h:a->p:=by(intro zx8;refine zE ?_;refine fI ?_;((refine kO Z Z (λzh9=>?_) λzh9=>?_)<;>(try simp only[qQ,zX9,zYj,zZb,zZ7,yBe,zZ4,zY6,zZa,yBm,yBl,yAi]at zh9));(all_goals (repeat revert zh9));exact zx8)):p:=h k.x
def YK {p a b:Prop} (k:Two a b) (h:a->b->p:=by(intro zx8 zy8;((refine xH Z (λzh9=>?_) λzh9=>?_)<;>(try simp only[qQ,zX9,zYj,zZb,zZ7,yBe,zZ4,zY6,zZa,yBm,yBl,yAi]at zh9));(all_goals (repeat revert zh9));exact zx8;exact zy8)):p:=h k.x k.y
def YK1 {p a:Prop} (k:One a) (h:a->p:=by(intro zx8;((refine xH Z (λzh9=>?_) λzh9=>?_)<;>(try simp only[qQ,zX9,zYj,zZb,zZ7,yBe,zZ4,zY6,zZa,yBm,yBl,yAi]at zh9));(all_goals (repeat revert zh9));exact zx8)):p:=h k.x
def YG0 {p a b:Prop} (k:Two a b) (h:a->b->p:=by(intro zx8 zy8;refine zE ?_;refine fI ?_;refine kO Z Z (λzh9=>?_) λzh9=>?_;(all_goals (repeat revert zh9));exact zx8;exact zy8)):p:=h k.x k.y
def YK0 {p a b:Prop} (k:Two a b) (h:a->b->p:=by(intro zx8 zy8;refine xH Z (λzh9=>?_) λzh9=>?_;(all_goals (repeat revert zh9));exact zx8;exact zy8)):p:=h k.x k.y
def uJ {p q:Prop} (k:q) (h:ZM q->p:=by(intro zq9;(first|refine WZ ?_|refine YG ?_|refine YG1 ?_|refine SR ?_|refine YK ?_|refine YK1 ?_);exact zq9.h)):p:=h ⟨k⟩
def WZX {p q:Prop} (k:q) (h:ZM q->p:=by(intro zq9;(first|refine WZ ?_|refine YG ?_|refine YG1 ?_|refine SX ?_);exact zq9.h)):p:=h ⟨k⟩
def WZN {p q:Prop} (k:q) (h:ZM q->p:=by(intro zq9;(first|refine WZ ?_|refine YG ?_|refine YG1 ?_|refine SN ?_|refine YK ?_|refine YK1 ?_);exact zq9.h)):p:=h ⟨k⟩
def WZB {p q:Prop} (k:q) (h:ZM q->p:=by(intro zq9;(first|refine WZ ?_|refine YG ?_|refine YG1 ?_|refine SQ ?_);exact zq9.h)):p:=h ⟨k⟩
def MF {p q:Prop} (k:q) (h:ZM q->p:=by(intro zq9;(first|refine WY ?_|refine YG ?_|refine YG1 ?_|refine SR ?_|refine YK ?_|refine YK1 ?_);exact zq9.h)):p:=h ⟨k⟩
def WYX {p q:Prop} (k:q) (h:ZM q->p:=by(intro zq9;(first|refine WY ?_|refine YG ?_|refine YG1 ?_|refine SX ?_);exact zq9.h)):p:=h ⟨k⟩
def WTR {p q:Prop} (k:q) (h:ZM q->p:=by(intro zq9;(first|refine WT ?_|refine YG ?_|refine YG1 ?_|refine SR ?_|refine YK ?_|refine YK1 ?_);exact zq9.h)):p:=h ⟨k⟩
def YA {p q:Prop} (k:q) (h:ZM q->p:=by(intro zq9;(first|refine WZ ?_|refine YG0 ?_|refine SR ?_|refine YK0 ?_);exact zq9.h)):p:=h ⟨k⟩
def WW {p q:Prop} (k:q) (h:ZM q->p:=by(intro zq9;(repeat' (first|refine WZ ?_|refine SG (I2 (λzh8=>?_) λzh8=>?_)|refine SG λzh8=>?_|(refine zE ?_;refine SM ?_)|refine SR ?_|refine SK (I2 (λzh8=>?_) λzh8=>?_)|refine SK λzh8=>?_|fail));(all_goals (repeat revert zh8));first|done|(exact zq9.h;done)|(exact zq9.h.1;exact zq9.h.2;done)|(exact zq9.h.1;exact zq9.h.2.1;exact zq9.h.2.2;done)|(exact zq9.h.1;exact zq9.h.2.1;exact zq9.h.2.2.1;exact zq9.h.2.2.2;done)|(exact zq9.h.1;exact zq9.h.2.1;exact zq9.h.2.2.1;exact zq9.h.2.2.2.1;exact zq9.h.2.2.2.2;done)|(exact zq9.h.1;exact zq9.h.2.1;exact zq9.h.2.2.1;exact zq9.h.2.2.2.1;exact zq9.h.2.2.2.2.1;exact zq9.h.2.2.2.2.2;done))):p:=h ⟨k⟩
def WL {p q:Prop} (k:q) (h:ZM q->p:=by(intro zq9;(repeat' (first|refine WY ?_|refine SG (I2 (λzh8=>?_) λzh8=>?_)|refine SG λzh8=>?_|(refine zE ?_;first|refine SL ?_|refine SM ?_)|refine SB ?_|refine SR ?_|refine SK (I2 (λzh8=>?_) λzh8=>?_)|refine SK λzh8=>?_|fail));(all_goals (repeat revert zh8));first|done|(exact zq9.h;done)|(exact zq9.h.1;exact zq9.h.2;done)|(exact zq9.h.1;exact zq9.h.2.1;exact zq9.h.2.2;done)|(exact zq9.h.1;exact zq9.h.2.1;exact zq9.h.2.2.1;exact zq9.h.2.2.2;done)|(exact zq9.h.1;exact zq9.h.2.1;exact zq9.h.2.2.1;exact zq9.h.2.2.2.1;exact zq9.h.2.2.2.2;done)|(exact zq9.h.1;exact zq9.h.2.1;exact zq9.h.2.2.1;exact zq9.h.2.2.2.1;exact zq9.h.2.2.2.2.1;exact zq9.h.2.2.2.2.2;done))):p:=h ⟨k⟩
def WD {p q:Prop} (k:q) (h:ZM q->p:=by(intro zq9;(repeat' (first|refine WZ ?_|refine SG (I2 (λzh8=>?_) λzh8=>?_)|refine SG λzh8=>?_|(refine zE ?_;refine SM ?_)|refine SX ?_|fail));(all_goals (repeat revert zh8));first|done|(exact zq9.h;done)|(exact zq9.h.1;exact zq9.h.2;done)|(exact zq9.h.1;exact zq9.h.2.1;exact zq9.h.2.2;done)|(exact zq9.h.1;exact zq9.h.2.1;exact zq9.h.2.2.1;exact zq9.h.2.2.2;done)|(exact zq9.h.1;exact zq9.h.2.1;exact zq9.h.2.2.1;exact zq9.h.2.2.2.1;exact zq9.h.2.2.2.2;done)|(exact zq9.h.1;exact zq9.h.2.1;exact zq9.h.2.2.1;exact zq9.h.2.2.2.1;exact zq9.h.2.2.2.2.1;exact zq9.h.2.2.2.2.2;done))):p:=h ⟨k⟩
def eN {f:Nat} {fn:Func} {body:Code} {args:List AV} {h0:List (Nat×xN)} {r:AV} {h1:List (Nat×xN)} (hf:prog.funcs[f]? =some fn) (able:bY prog f) (h:∀F:Fr (yS h0),F.ro=none/\F.it=false->uQ prog F fn.ntmps body ⟨UW 0 args,h0⟩ (Fin TT fn.results.toList h0 r h1)) (hb:fn.body=some body:=by exact Z) (hlen:Nat.ble args.length fn.ntmps=true:=by exact Z) (hnd:uG h0=true:=by exact Z) (hnd1:uG h1=true:=by exact Z) (hgs:Nat.ble fn.ntmps GS=true:=by rfl):xP prog f args h0 r h1:=VH tok hf hb able hlen hnd hnd1 h hgs
def zJ {TT:List TI} {rs:List ResultVar} {h0:List (Nat×xN)} {r:AV} {h1:List (Nat×xN)} {st:St} {vs:List AV} (h:MU TT st rs=some vs:=by exact Z) (hK:(yS h0).all (([]:List Nat).contains ·)=true:=by exact Z) (hr:VE (wQ [] (zC st.h) (DF vs))=r:=by exact Z) (hh:vD [] (zC st.h)=h1:=by exact Z):Fin TT rs h0 r h1 .ret st:=zI [] h hK hr hh
structure zT2 (A B:Prop):Prop where
  mk::(a1:A) (b1:B)
def wZ {A B:Prop} (a1:A) (b1:B):zT2 A B:=⟨a1,b1⟩
def ze2 {A B p:Prop} (z:zT2 A B) (h:A->B->p):p:=h z.a1 z.b1
structure zT3 (A B C:Prop):Prop where
  mk::(a1:A) (b1:B) (c1:C)
def fQ {A B C:Prop} (a1:A) (b1:B) (c1:C):zT3 A B C:=⟨a1,b1,c1⟩
def ze3 {A B C p:Prop} (z:zT3 A B C) (h:A->B->C->p):p:=h z.a1 z.b1 z.c1
structure zT4 (A B C D:Prop):Prop where
  mk::(a1:A) (b1:B) (c1:C) (d1:D)
def XU {A B C D:Prop} (a1:A) (b1:B) (c1:C) (d1:D):zT4 A B C D:=⟨a1,b1,c1,d1⟩
def ze4 {A B C D p:Prop} (z:zT4 A B C D) (h:A->B->C->D->p):p:=h z.a1 z.b1 z.c1 z.d1
structure zT5 (A B C D E:Prop):Prop where
  mk::(a1:A) (b1:B) (c1:C) (d1:D) (e1:E)
def zt5 {A B C D E:Prop} (a1:A) (b1:B) (c1:C) (d1:D) (e1:E):zT5 A B C D E:=⟨a1,b1,c1,d1,e1⟩
def ze5 {A B C D E p:Prop} (z:zT5 A B C D E) (h:A->B->C->D->E->p):p:=h z.a1 z.b1 z.c1 z.d1 z.e1
structure zT6 (A B C D E F:Prop):Prop where
  mk::(a1:A) (b1:B) (c1:C) (d1:D) (e1:E) (f1:F)
def zt6 {A B C D E F:Prop} (a1:A) (b1:B) (c1:C) (d1:D) (e1:E) (f1:F):zT6 A B C D E F:=⟨a1,b1,c1,d1,e1,f1⟩
def ze6 {A B C D E F p:Prop} (z:zT6 A B C D E F) (h:A->B->C->D->E->F->p):p:=h z.a1 z.b1 z.c1 z.d1 z.e1 z.f1
structure zT7 (A B C D E F G:Prop):Prop where
  mk::(a1:A) (b1:B) (c1:C) (d1:D) (e1:E) (f1:F) (g1:G)
def zt7 {A B C D E F G:Prop} (a1:A) (b1:B) (c1:C) (d1:D) (e1:E) (f1:F) (g1:G):zT7 A B C D E F G:=⟨a1,b1,c1,d1,e1,f1,g1⟩
def ze7 {A B C D E F G p:Prop} (z:zT7 A B C D E F G) (h:A->B->C->D->E->F->G->p):p:=h z.a1 z.b1 z.c1 z.d1 z.e1 z.f1 z.g1
structure zT8 (A B C D E F G H:Prop):Prop where
  mk::(a1:A) (b1:B) (c1:C) (d1:D) (e1:E) (f1:F) (g1:G) (h1:H)
def zt8 {A B C D E F G H:Prop} (a1:A) (b1:B) (c1:C) (d1:D) (e1:E) (f1:F) (g1:G) (h1:H):zT8 A B C D E F G H:=⟨a1,b1,c1,d1,e1,f1,g1,h1⟩
def ze8 {A B C D E F G H p:Prop} (z:zT8 A B C D E F G H) (h:A->B->C->D->E->F->G->H->p):p:=h z.a1 z.b1 z.c1 z.d1 z.e1 z.f1 z.g1 z.h1
def yR {Y p q:Prop} (zc0:Y) (k:q) (h:Y->ZM q->p:=by(intro zc0 zq9;(first|refine ze2 zc0 (λzc1 zc2=>?_)|refine ze3 zc0 (λzc1 zc2 zc3=>?_)|refine ze4 zc0 (λzc1 zc2 zc3 zc4=>?_)|refine ze5 zc0 (λzc1 zc2 zc3 zc4 zc5=>?_)|refine ze6 zc0 (λzc1 zc2 zc3 zc4 zc5 zc6=>?_)|refine ze7 zc0 (λzc1 zc2 zc3 zc4 zc5 zc6 zc7=>?_)|refine ze8 zc0 (λzc1 zc2 zc3 zc4 zc5 zc6 zc7 zc8=>?_));(repeat' (first|refine WZ ?_|refine SG (I2 (λzh8=>?_) λzh8=>?_)|refine SG λzh8=>?_|(refine zE ?_;refine SM ?_)|refine SR ?_|refine SK (I2 (λzh8=>?_) λzh8=>?_)|refine SK λzh8=>?_|fail));(all_goals (repeat revert zh8));first|done|(exact zq9.h;done)|(exact zq9.h.1;exact zq9.h.2;done)|(exact zq9.h.1;exact zq9.h.2.1;exact zq9.h.2.2;done)|(exact zq9.h.1;exact zq9.h.2.1;exact zq9.h.2.2.1;exact zq9.h.2.2.2;done)|(exact zq9.h.1;exact zq9.h.2.1;exact zq9.h.2.2.1;exact zq9.h.2.2.2.1;exact zq9.h.2.2.2.2;done)|(exact zq9.h.1;exact zq9.h.2.1;exact zq9.h.2.2.1;exact zq9.h.2.2.2.1;exact zq9.h.2.2.2.2.1;exact zq9.h.2.2.2.2.2;done))):p:=h zc0 ⟨k⟩
def zY {Y p q:Prop} (zc0:Y) (k:q) (h:Y->ZM q->p:=by(intro zc1 zq9;(repeat' (first|refine WZ ?_|refine SG (I2 (λzh8=>?_) λzh8=>?_)|refine SG λzh8=>?_|(refine zE ?_;refine SM ?_)|refine SR ?_|refine SK (I2 (λzh8=>?_) λzh8=>?_)|refine SK λzh8=>?_|fail));(all_goals (repeat revert zh8));first|done|(exact zq9.h;done)|(exact zq9.h.1;exact zq9.h.2;done)|(exact zq9.h.1;exact zq9.h.2.1;exact zq9.h.2.2;done)|(exact zq9.h.1;exact zq9.h.2.1;exact zq9.h.2.2.1;exact zq9.h.2.2.2;done)|(exact zq9.h.1;exact zq9.h.2.1;exact zq9.h.2.2.1;exact zq9.h.2.2.2.1;exact zq9.h.2.2.2.2;done)|(exact zq9.h.1;exact zq9.h.2.1;exact zq9.h.2.2.1;exact zq9.h.2.2.2.1;exact zq9.h.2.2.2.2.1;exact zq9.h.2.2.2.2.2;done))):p:=h zc0 ⟨k⟩
def EV {Y p q:Prop} (zc0:Y) (k:q) (h:Y->ZM q->p:=by(intro zc0 zq9;(first|refine ze2 zc0 (λzc1 zc2=>?_)|refine ze3 zc0 (λzc1 zc2 zc3=>?_)|refine ze4 zc0 (λzc1 zc2 zc3 zc4=>?_)|refine ze5 zc0 (λzc1 zc2 zc3 zc4 zc5=>?_)|refine ze6 zc0 (λzc1 zc2 zc3 zc4 zc5 zc6=>?_)|refine ze7 zc0 (λzc1 zc2 zc3 zc4 zc5 zc6 zc7=>?_)|refine ze8 zc0 (λzc1 zc2 zc3 zc4 zc5 zc6 zc7 zc8=>?_));(repeat' (first|refine WY ?_|refine SG (I2 (λzh8=>?_) λzh8=>?_)|refine SG λzh8=>?_|(refine zE ?_;first|refine SL ?_|refine SM ?_)|refine SB ?_|refine SR ?_|refine SK (I2 (λzh8=>?_) λzh8=>?_)|refine SK λzh8=>?_|fail));(all_goals (repeat revert zh8));first|done|(exact zq9.h;done)|(exact zq9.h.1;exact zq9.h.2;done)|(exact zq9.h.1;exact zq9.h.2.1;exact zq9.h.2.2;done)|(exact zq9.h.1;exact zq9.h.2.1;exact zq9.h.2.2.1;exact zq9.h.2.2.2;done)|(exact zq9.h.1;exact zq9.h.2.1;exact zq9.h.2.2.1;exact zq9.h.2.2.2.1;exact zq9.h.2.2.2.2;done)|(exact zq9.h.1;exact zq9.h.2.1;exact zq9.h.2.2.1;exact zq9.h.2.2.2.1;exact zq9.h.2.2.2.2.1;exact zq9.h.2.2.2.2.2;done))):p:=h zc0 ⟨k⟩
def WLo {Y p q:Prop} (zc0:Y) (k:q) (h:Y->ZM q->p:=by(intro zc1 zq9;(repeat' (first|refine WY ?_|refine SG (I2 (λzh8=>?_) λzh8=>?_)|refine SG λzh8=>?_|(refine zE ?_;first|refine SL ?_|refine SM ?_)|refine SB ?_|refine SR ?_|refine SK (I2 (λzh8=>?_) λzh8=>?_)|refine SK λzh8=>?_|fail));(all_goals (repeat revert zh8));first|done|(exact zq9.h;done)|(exact zq9.h.1;exact zq9.h.2;done)|(exact zq9.h.1;exact zq9.h.2.1;exact zq9.h.2.2;done)|(exact zq9.h.1;exact zq9.h.2.1;exact zq9.h.2.2.1;exact zq9.h.2.2.2;done)|(exact zq9.h.1;exact zq9.h.2.1;exact zq9.h.2.2.1;exact zq9.h.2.2.2.1;exact zq9.h.2.2.2.2;done)|(exact zq9.h.1;exact zq9.h.2.1;exact zq9.h.2.2.1;exact zq9.h.2.2.2.1;exact zq9.h.2.2.2.2.1;exact zq9.h.2.2.2.2.2;done))):p:=h zc0 ⟨k⟩
def WDc {Y p q:Prop} (zc0:Y) (k:q) (h:Y->ZM q->p:=by(intro zc0 zq9;(first|refine ze2 zc0 (λzc1 zc2=>?_)|refine ze3 zc0 (λzc1 zc2 zc3=>?_)|refine ze4 zc0 (λzc1 zc2 zc3 zc4=>?_)|refine ze5 zc0 (λzc1 zc2 zc3 zc4 zc5=>?_)|refine ze6 zc0 (λzc1 zc2 zc3 zc4 zc5 zc6=>?_)|refine ze7 zc0 (λzc1 zc2 zc3 zc4 zc5 zc6 zc7=>?_)|refine ze8 zc0 (λzc1 zc2 zc3 zc4 zc5 zc6 zc7 zc8=>?_));(repeat' (first|refine WZ ?_|refine SG (I2 (λzh8=>?_) λzh8=>?_)|refine SG λzh8=>?_|(refine zE ?_;refine SM ?_)|refine SX ?_|fail));(all_goals (repeat revert zh8));first|done|(exact zq9.h;done)|(exact zq9.h.1;exact zq9.h.2;done)|(exact zq9.h.1;exact zq9.h.2.1;exact zq9.h.2.2;done)|(exact zq9.h.1;exact zq9.h.2.1;exact zq9.h.2.2.1;exact zq9.h.2.2.2;done)|(exact zq9.h.1;exact zq9.h.2.1;exact zq9.h.2.2.1;exact zq9.h.2.2.2.1;exact zq9.h.2.2.2.2;done)|(exact zq9.h.1;exact zq9.h.2.1;exact zq9.h.2.2.1;exact zq9.h.2.2.2.1;exact zq9.h.2.2.2.2.1;exact zq9.h.2.2.2.2.2;done))):p:=h zc0 ⟨k⟩
def WDo {Y p q:Prop} (zc0:Y) (k:q) (h:Y->ZM q->p:=by(intro zc1 zq9;(repeat' (first|refine WZ ?_|refine SG (I2 (λzh8=>?_) λzh8=>?_)|refine SG λzh8=>?_|(refine zE ?_;refine SM ?_)|refine SX ?_|fail));(all_goals (repeat revert zh8));first|done|(exact zq9.h;done)|(exact zq9.h.1;exact zq9.h.2;done)|(exact zq9.h.1;exact zq9.h.2.1;exact zq9.h.2.2;done)|(exact zq9.h.1;exact zq9.h.2.1;exact zq9.h.2.2.1;exact zq9.h.2.2.2;done)|(exact zq9.h.1;exact zq9.h.2.1;exact zq9.h.2.2.1;exact zq9.h.2.2.2.1;exact zq9.h.2.2.2.2;done)|(exact zq9.h.1;exact zq9.h.2.1;exact zq9.h.2.2.1;exact zq9.h.2.2.2.1;exact zq9.h.2.2.2.2.1;exact zq9.h.2.2.2.2.2;done))):p:=h zc0 ⟨k⟩
def eM {f:Nat} {fn:Func} {body:Code} {args:List AV} {h0:List (Nat×xN)} {r:AV} {h1:List (Nat×xN)} (able:bY prog f) (h:∀F:Fr (yS h0),F.ro=none/\F.it=false->uQ prog F fn.ntmps body ⟨UW 0 args,h0⟩ (Fin TT fn.results.toList h0 r h1)) (hf:prog.funcs[f]? =some fn:=by exact Z) (hb:fn.body=some body:=by exact Z) (hlen:Nat.ble args.length fn.ntmps=true:=by exact Z) (hnd:uG h0=true:=by exact Z) (hnd1:uG h1=true:=by exact Z) (hgs:Nat.ble fn.ntmps GS=true:=by rfl):xP prog f args h0 r h1:=eN hf able h hb hlen hnd hnd1 hgs
abbrev zO:=xP prog
def BP {p:Prop} (h:p:=by(apply qK;(exact zJ);simp only[qQ,zYj,zX9,zY6,zZa,zZb,zZ7,yBe];omega)):p:=h
def zXO {p:Prop} (h:p:=by(exfalso;omega)):p:=h
def zB {p:Prop} (h:p:=by omega):p:=h
def iA (n:Int):AV:= .s (.int .i64 n)
def yA (n:Int):AV:= .s (.int .u8 n)
def bA (b:Bool):AV:= .s (.bool b)
def zD {α:Type} (f:α->AV) (l:List α):AV:= .sl false (l.map f)
structure Cl where
 ag:Int
 id:Int
 ph:Int
 k:Int
 si:Int
structure Sv where
 ph:Int
 gr:Int
 en:List Int
structure Ph where
 ring:Int
 group:Int
 ming:Int
 maxg:Int
 yel:Int
 red:Int
 walk:Int
 clear:Int
structure Jn where
 ph:List Ph
 cf:List Int
 st:Int
structure Ag where
 sec:List Int
 rights:Int
 cls:Int
 lim:List Int
 req:Int
 ses:Int
 rate:Int
 burst:Int
structure Cf where
 js:List Jn
 ags:List Ag
 per:Int
 cap:Int
 hold:Int
 lock:Int
structure Tk where
 used:Bool
 sec:List Int
 par:Int
 rights:Int
 cls:Int
 til:Int
structure Vh where
 id:Int
 cls:Int
structure Bk where
 level:Int
 rate:Int
 burst:Int
structure Rg where
 num:Int
 ag:Ag
 tk:List Tk
 vh:List Vh
 bk:Bk
structure Ms where
 kind:Int
 tok:List Int
 args:List Int
 data:List Int
def cT (c:Cl):AV:= .agg [iA c.ag,iA c.id,iA c.ph,iA c.k,iA c.si]
def vI (s:Sv):AV:= .agg [iA s.ph,iA s.gr,zD iA s.en]
def vK (p:Ph):AV:= .agg [iA p.ring,iA p.group,iA p.ming,iA p.maxg,iA p.yel,iA p.red,iA p.walk,iA p.clear]
def vC (j:Jn):AV:= .agg [zD vK j.ph,zD iA j.cf,iA j.st]
def vU (a:Ag):AV:= .agg [zD yA a.sec,iA a.rights,iA a.cls,zD iA a.lim,iA a.req,iA a.ses,iA a.rate,iA a.burst]
def vL (c:Cf):AV:= .agg [zD vC c.js,zD vU c.ags,iA c.per,iA c.cap,iA c.hold,iA c.lock]
def yY (t:Tk):AV:= .agg [bA t.used,zD yA t.sec,iA t.par,iA t.rights,iA t.cls,iA t.til]
def vY (v:Vh):AV:= .agg [iA v.id,iA v.cls]
def bkA (b:Bk):AV:= .agg [iA b.level,iA b.rate,iA b.burst]
def qW (r:Rg):AV:= .agg [iA r.num,zD yA r.ag.sec,iA r.ag.rights,iA r.ag.cls,zD iA r.ag.lim,iA r.ag.req,iA r.ag.ses,iA r.ag.rate,iA r.ag.burst,zD yY r.tk,zD vY r.vh,iA r.bk.level,iA r.bk.rate,iA r.bk.burst]
def yF (m:Ms):AV:= .agg [iA m.kind,zD yA m.tok,zD iA m.args,zD yA m.data]
instance:Inhabited Tk:=⟨⟨false,[],-1,0,0,0⟩⟩
instance:Inhabited Vh:=⟨⟨0,0⟩⟩
instance:Inhabited Cl:=⟨⟨0,0,0,0,0⟩⟩
instance:Inhabited Ph:=⟨⟨0,0,0,0,0,0,0,0⟩⟩
instance:Inhabited Jn:=⟨⟨[],[],0⟩⟩
instance:Inhabited Ag:=⟨⟨[],0,0,[],0,0,0,0⟩⟩
def qK {TT:List TI} {rs:List ResultVar} {h0 h1:List (Nat×xN)} {e:Exit} {st:St} {b b':Bool} (h:Fin TT rs h0 (bA b') h1 e st) (hb:b'=b):Fin TT rs h0 (bA b) h1 e st:=hb▸h
def zM {α:Type} [Inhabited α] (f:α->AV) (l:List α) (i:Nat) (h:i<l.length):(l.map f)[i]? =some (f (l.getD i default)):=by simp[List.getD,h]
def yN {α:Type} [Inhabited α] (f:α->AV) (l:List α) (i:Int) (h0:0<=i) (h:i<l.length):(l.map f)[i.toNat]? =some (f (l.getD i.toNat default)):=zM f l _ (by omega)
def QI (k:IntKind) (n:Int):Int:=k.wrap (BitVec.ofInt k.bits (if k.signed=true then -1 else k.max) ^^^ BitVec.ofInt k.bits n).toNat
def PC {P:Program} {st:St} {tx:Nat} {x:Operand} {k:IntKind} {n:Int} (hx:yM (zG st.tm) x= .s (.int k n)):wV P st (.unOp .xor tx x) (.s (.int k (QI k n))) [] [] []:=
 yO λo X tm h w β a ho hg _ _ Ht=>by
  obtain⟨d0,o0,y0,p0,f0,g0⟩:=o;dsimp only at ho;subst ho;have h1:=vV Ht hg (x:=x) uT hx;exact⟨.int k (QI k n),by simp[execOp,h1,Op.unary,Op.intBits,QI],.fz _ _ (.s _)⟩
def uA (n:Int):AV:= .s (.int .u32 n)
def MT (a b:Int):Int:=IntKind.u32.wrap (BitVec.ofInt IntKind.u32.bits a ^^^ BitVec.ofInt IntKind.u32.bits b).toNat
def zOf (a b:Int):Int:=IntKind.u32.wrap (BitVec.ofInt IntKind.u32.bits a &&& BitVec.ofInt IntKind.u32.bits b).toNat
def orU (a b:Int):Int:=IntKind.u32.wrap (BitVec.ofInt IntKind.u32.bits a ||| BitVec.ofInt IntKind.u32.bits b).toNat
def zWe (a:Int) (n:Nat):Int:=a.fdiv (2 ^ (min n IntKind.u32.bits))
def crS (r:Int):Int:=if zOf r 1=1 then MT (zWe r 1) 3988292384 else zWe r 1
def crN (r:Int):Nat->Int
 |0=>r
 |i+1=>crS (crN r i)
def crB (r x:Int):Int:=crN (MT r x) 8
def crF (r:Int) (l:List Int):Int:=l.foldl crB r
def eK (l:List Int):Int:=QI .u32 (crF (QI .u32 0) l)
def EW (r:Int) (l:List Int) (x:Int):crF r (l++[x])=crB (crF r l) x:=by simp[crF]
section
variable {P:Program} {tm:List (Nat×AV)} {h:List (Nat×xN)} {tx ty:Nat} {x y:Operand} {m n:Int}
def UR (hx:yM (zG tm) x= .s (.int .u32 m)) (hy:yM (zG tm) y= .s (.int .u32 n)):wV P ⟨tm,h⟩ (.binOp .and tx x y ty) (.s (.int .u32 (zOf m n))) [] [] []:=PF hx hy
def US (hx:yM (zG tm) x= .s (.int .u32 m)) (hy:yM (zG tm) y= .s (.int .u32 n)):wV P ⟨tm,h⟩ (.binOp .or tx x y ty) (.s (.int .u32 (orU m n))) [] [] []:=IM hx hy
end
def zTd (r:Int) (l:List Int) (hl:l.length<=1000000) (hb:BY l):xP prog 182 [uA r,zD yA l] [] (uA (QI .u32 (crF (QI .u32 r) l))) []:=by
 have hll:=zA yA l
 (refine eM call182 λF hF=>?_)
 (repeat' (first|refine uJ ?_|apply xL|apply wB|intro hc|(refine zE ?_;first|(refine bU ?_;refine zP (PC Z) Z ?_))|fail))
 generalize QI .u32 r=r0 at*
 (refine yT (l) [] [] [11,12] [5,13,11,12] Z (λi pre T U=>⟨(5,uA (crF r0 pre))::(13,iA i)::T,U⟩) ?_;(conv=>whnf);refine⟨by rfl,?_,?_⟩)
 ·intro i pre x post hx hi;have hy:=xQ yA hx hi;have hlt:=yW hx hi;have hbx:=hb x (vF hx);rw[EW];clear hx;generalize crF r0 pre=q at*
  (refine WW ?_)
  (refine zS (8) [] [] [11,12,13] [5,21,11,12,13] Z (λi T U=>⟨(5,uA (crN (MT q x) i))::(21,iA i)::T,U⟩) ?_;(conv=>whnf);refine⟨by rfl,?_,?_⟩)
  ·intro k hk;have e:crN (MT q x) (k+1)=crS (crN (MT q x) k):=rfl;rw[e];generalize crN (MT q x) k=z at *;unfold crS;by_cases hz:zOf z 1=1
   ·rw[zX3 hz]
    (repeat' (first|refine uJ ?_|apply xL|apply wB|intro hc|(refine zE ?_;first|(refine xM ?_;refine zP (UR Z Z) Z ?_))|fail))
    rfl
   ·rw[zX2 hz]
    (repeat' (first|refine uJ ?_|apply xL|apply wB|intro hc|(refine zE ?_;first|(refine xM ?_;refine zP (UR Z Z) Z ?_))|fail))
    rfl
  ·(refine WW ?_)
   rfl
 ·(repeat' (first|refine uJ ?_|apply xL|apply wB|intro hc|(refine zE ?_;first|(refine bU ?_;refine zP (PC Z) Z ?_))|fail))
  exact zJ
def zQs (l:List Int) (hl:l.length<=1000000) (hb:BY l):xP prog 138 [zD yA l] [] (uA (eK l)) []:=by
 have c:=zTd 0 l hl hb
 (refine eM call138 λF hF=>?_)
 (have zc1:=c;refine WW ?_;clear zc1)
 exact zJ
def zOg (r:Int) (l:List Int) (hl:l.length<=1000000) (hb:BY l):xP prog 100 [uA r,zD yA l] [] (uA (QI .u32 (crF (QI .u32 r) l))) []:=by
 have hll:=zA yA l
 (refine eM call100 λF hF=>?_)
 (repeat' (first|refine uJ ?_|apply xL|apply wB|intro hc|(refine zE ?_;first|(refine bU ?_;refine zP (PC Z) Z ?_))|fail))
 generalize QI .u32 r=r0 at*
 (refine yT (l) [] [] [11,12] [5,13,11,12] Z (λi pre T U=>⟨(5,uA (crF r0 pre))::(13,iA i)::T,U⟩) ?_;(conv=>whnf);refine⟨by rfl,?_,?_⟩)
 ·intro i pre x post hx hi;have hy:=xQ yA hx hi;have hlt:=yW hx hi;have hbx:=hb x (vF hx);rw[EW];clear hx;generalize crF r0 pre=q at*
  (refine WW ?_)
  (refine zS (8) [] [] [11,12,13] [5,21,11,12,13] Z (λi T U=>⟨(5,uA (crN (MT q x) i))::(21,iA i)::T,U⟩) ?_;(conv=>whnf);refine⟨by rfl,?_,?_⟩)
  ·intro k hk;have e:crN (MT q x) (k+1)=crS (crN (MT q x) k):=rfl;rw[e];generalize crN (MT q x) k=z at *;unfold crS;by_cases hz:zOf z 1=1
   ·rw[zX3 hz]
    (repeat' (first|refine uJ ?_|apply xL|apply wB|intro hc|(refine zE ?_;first|(refine xM ?_;refine zP (UR Z Z) Z ?_))|fail))
    rfl
   ·rw[zX2 hz]
    (repeat' (first|refine uJ ?_|apply xL|apply wB|intro hc|(refine zE ?_;first|(refine xM ?_;refine zP (UR Z Z) Z ?_))|fail))
    rfl
  ·(refine WW ?_)
   rfl
 ·(repeat' (first|refine uJ ?_|apply xL|apply wB|intro hc|(refine zE ?_;first|(refine bU ?_;refine zP (PC Z) Z ?_))|fail))
  exact zJ
def zAi (l:List Int) (hl:l.length<=1000000) (hb:BY l):xP prog 65 [zD yA l] [] (uA (eK l)) []:=by
 have c:=zOg 0 l hl hb
 (refine eM call65 λF hF=>?_)
 (have zc1:=c;refine WW ?_;clear zc1)
 exact zJ
def ID (l:List Int):0<=eK l/\eK l<4294967296:=by
 unfold eK QI IntKind.wrap;simp[IntKind.signed,IntKind.bits];omega
def cF (p:Nat->Bool):Nat->Int
 |0=>0
 |n+1=>if p n=true then cF p n+p2 n else cF p n
theorem zAj (p:Nat->Bool):∀n:Nat,n<=30->0<=cF p n/\cF p n<p2 n
 |0,_=>⟨yAc 0,by show(0:Int)<1;decide⟩
 | n+1,h=>by
  have ih:=zAj p n (by omega)
  have h2:p2 ((n+1:Nat):Int)=2*p2 (n:Int):=by
   unfold p2;rw[zZp,zZp,yDr];omega
  have:=zQv n (by omega);unfold cF
  split<;>omega
theorem bT {p q:Nat->Bool}:∀n:Nat,(∀i,i<n->p i=q i)->cF p n=cF q n
 |0,_=>rfl
 |n+1,h=>by unfold cF;rw[h n (by omega),bT n λi hi=>h i (by omega)]
def bq (b0 b1 b2 b3 b4 b5 b6 b7:Bool):Nat->Bool
 |0=>b0|1=>b1|2=>b2|3=>b3|4=>b4|5=>b5|6=>b6|7=>b7|_=>false
def zWf:∀b0 b1 b2 b3 b4 b5 b6 b7:Bool,∀i:_root_.Fin 8,(fH (qG (cF (bq b0 b1 b2 b3 b4 b5 b6 b7) 8) i.val) 1==1)=bq b0 b1 b2 b3 b4 b5 b6 b7 i.val:=by decide +kernel
def zOh (p:Nat->Bool) (i:Nat) (hi:i<8):(fH (qG (cF p 8) i) 1==1)=p i:=by
 have e:∀j,j<8->p j=bq (p 0) (p 1) (p 2) (p 3) (p 4) (p 5) (p 6) (p 7) j:=λj hj=>by
  match j,hj with
  |0,_=>rfl|1,_=>rfl|2,_=>rfl|3,_=>rfl|4,_=>rfl|5,_=>rfl|6,_=>rfl|7,_=>rfl
  |j+8,h=>omega
 rw[bT 8 e,e i hi];exact zWf _ _ _ _ _ _ _ _ ⟨i,hi⟩
def bsN (p:Nat->Bool):Nat->Nat
 |0=>0
 |n+1=>if p n=true then bsN p n+2 ^ n else bsN p n
theorem EX (p:Nat->Bool):∀n,cF p n=(bsN p n:Int)
 |0=>rfl
 |n+1=>by
  unfold cF bsN;rw[EX p n];split
  ·unfold p2;simp
  ·rfl
theorem OJ (p:Nat->Bool):∀n,bsN p n<2 ^ n
 |0=>(show 0<1 by omega)
 |n+1=>by
  have:=OJ p n;unfold bsN;rw[Nat.pow_succ]
  split<;>omega
theorem aM (p:Nat->Bool):∀n i,(bsN p n).testBit i=(decide (i<n)&&p i)
 |0,i=>by simp[bsN]
 | n+1,i=>by
  have hlt:=OJ p n;unfold bsN
  rcases Nat.lt_trichotomy i n with h|h|h
  ·rw[zYa (by omega),zYr];split
   ·rw[Nat.add_comm,Nat.testBit_two_pow_add_gt h,aM p n i,zYa h,zYr]
   ·rw[aM p n i,zYa h,zYr]
  ·subst h;rw[zYa (by omega),zYr];split
   ·rename_i hp;rw[Nat.add_comm,Nat.testBit_two_pow_add_eq,aM p i i,zYb (by omega),hp];rfl
   ·rename_i hp;rw[aM p i i,zYb (by omega)];simpa using hp
  ·rw[zYb (by omega),zZv];refine Nat.testBit_lt_two_pow ?_;have h2:2 ^ (n+1)<=2 ^ i:=yCb (by omega) (by omega);rw[Nat.pow_succ]at h2
   split<;>omega
def IE (a b:Nat) (ha:a<2 ^ 30) (hb:b<2 ^ 30):orI a b=((a ||| b:Nat):Int):=by
 have h:=yDo ha hb;unfold orI;rw[yBk,yBk,yDt,yBg,yBg];have e:(2:Nat) ^ IntKind.i64.bits=18446744073709551616:=by decide
 rw[e,yAs (by omega),yAs (by omega)];exact kV (k:= .i64) (by unfold YH;omega)
def zTe (p q:Nat->Bool):orI (cF p 8) (cF q 8)=cF (λi=>p i||q i) 8:=by
 have h1:=OJ p 8;have h2:=OJ q 8;rw[EX,EX,EX,IE _ _ (by omega) (by omega)]
 congr 1
 apply Nat.eq_of_testBit_eq;intro i;rw[yD1,aM,aM,aM]
 cases decide (i<8)<;>simp
def zCr (n:Int) (h0:0<=n) (h1:n<=200):xP prog 137 [iA n] [] (iA (6+n+4)) []:=by
 (refine eM call137 λF hF=>?_)
 (refine WW ?_)
 exact zJ
def XM (l:List Int):Int:=l.foldl (λn x=>orU (IntKind.u32.wrap (n*2 ^ (min (8:Int).toNat IntKind.u32.bits))) x) 0
def zI5 (l:List Int) (hl:l.length<=1000000) (hb:BY l):xP prog 139 [zD yA l] [] (uA (XM l)) []:=by
 have hll:=zA yA l
 (refine eM call139 λF hF=>?_)
 (refine WW ?_)
 (refine yT (l) [] [] [6,7] [3,8,6,7] Z (λi pre T U=>⟨(3,uA (XM pre))::(8,iA i)::T,U⟩) ?_;(conv=>whnf);refine⟨by rfl,?_,?_⟩)
 ·intro i pre x post hx hi;have hy:=xQ yA hx hi;have hlt:=yW hx hi;have hbx:=hb x (vF hx);rw[show XM (pre++[x])=orU (IntKind.u32.wrap (XM pre*2 ^ (min (8:Int).toNat IntKind.u32.bits))) x by simp[XM]];clear hx;generalize XM pre=q at*
  (repeat' (first|refine uJ ?_|apply xL|apply wB|intro hc|(refine zE ?_;first|(refine xM ?_;refine zP (US Z Z) Z ?_))|fail))
  rfl
 ·(refine WW ?_)
  exact zJ
def GK (s:Int):List Int:=(List.range 4).map λi:Nat=>IntKind.u8.wrap (s.fdiv (2 ^ (min (8*(3-(i:Int))).toNat IntKind.u32.bits)))
def aI (k:Int) (n:Nat):List Int:=[1,k,0,(n:Int)]
def YB (k:Int) (p:List Int):List Int:=90::165::(aI k p.length++p)++GK (eK (aI k p.length++p))
def zXn (n:Nat) (z a b c d e f:AV) (ys:List AV) (hy:ys.length=n):((((((List.replicate (n+10) z).set 0 a).set 1 b).set 2 c).set 3 d).set 4 e).set 5 f=a::b::c::d::e::f::List.replicate (n+4) z:=by
 rw[show n+10=n+4+1+1+1+1+1+1 by omega];simp[yB1]
def zI6 (A B:List Int) (z:Int) (i:Nat) (hi:i<B.length):(A++B.take i++List.replicate (B.length-i) z).set (A.length+i) (B.getD i default)=A++B.take (i+1)++List.replicate (B.length-(i+1)) z:=by
 have h1:(A++B.take i).length=A.length+i:=by rw[zX4,zYn];omega
 rw[show B.length-i=B.length-(i+1)+1 by omega,yB1,yAy _ _ (by omega),h1,yAa,yB4,zYc,zYk hi,yCd hi];simp only[zYw,yA0,yAm,yAg]
def zOi (s:Int):(GK s).length=4:=rfl
section
variable {P:Program} {TT:List TI} {K0:List Nat} {F:Fr K0} {m:Nat} {ops:Array Oper} {rest:List Oper} {Q:List FP->St->Prop} {tm:List (Nat×AV)} {h:List (Nat×xN)} {dr:Bool} {fs:List FP} {ty:Nat} {pos:String} {after:Array Edge} {t:Nat}
def YC (hP:uZ P TT) {T e key len sz:Nat} {x l r:Operand} {ti te:TI} {xs:List AV} {sl:Fl} {k1 k2:IntKind} {i j:Int} (hx:yM (zG tm) x= .ref key 0 len) (hk:zC h key=some (.arr sz xs sl)) (hl:yM (zG tm) l= .s (.int k1 i)) (hr:yM (zG tm) r= .s (.int k2 j)) (hT:TT[T]? =some ti) (hd:ti.d= .slice e) (he:TT[e]? =some te)
  (hsz:Nat.beq sz te.size=true) (a b:Nat) (ha:i=a) (hb:j=b) (h0:a<=b) (h1:b<=len) (hm:Nat.blt t m=true) (hq:yE P F m ops dr rest ⟨(t,.ref key a (b-a))::tm,h⟩ (⟨true,[],[key]⟩::fs) Q):
  yE P F m ops dr (⟨some t,.slice T x (some l) (some r) none,ty,pos,after,none⟩::rest) ⟨tm,h⟩ fs Q:=by
 have:=fS (P:=P) (st:=⟨tm,h⟩) (lo:=some l) (hi:=some r) (l:=a) (r:=b) hP hx hk hT hd he ⟨k1,i,hl,by omega⟩ ⟨k2,j,hr,by omega⟩ h0 h1 hsz;rw[zZm]at this;exact zP this hm hq
end
def fr6 (k:Int) (p:List Int):List AV:=((((((List.replicate (p.length+10) (yA 0)).set 0 (yA 90)).set 1 (yA 165)).set 2 (yA 1)).set 3 (yA k)).set 4 (.s (.int .u8 (IntKind.u8.wrap (qG (((p.map yA).length:Nat):Int) 8))))).set 5 (.s (.int .u8 (((p.map yA).length:Nat):Int)))
def fr7 (k:Int) (p:List Int):List AV:=(fr6 k p).take 6++p.map yA++(fr6 k p).drop (6+(p.map yA).length)
def EY (k:Int) (p:List Int) (i:Nat):List Int:=(90::165::(aI k p.length++p))++(GK (eK (aI k p.length++p))).take i++List.replicate (4-i) 0
def zTf (k:Int) (p:List Int) (hp:p.length<=200):fr7 k p=(EY k p 0).map yA:=by
 have h1:IntKind.u8.wrap (qG (((p.map yA).length:Nat):Int) 8)=0:=by
  have:qG (((p.map yA).length:Nat):Int) 8=0:=by
   unfold qG;rw[zX5,zZ1 _ zV]
   show(p.length:Int)/256=0
   omega
  rw[this];rfl
 have h2:fr6 k p=yA 90::yA 165::yA 1::yA k::yA 0::yA p.length::List.replicate (p.length+4) (yA 0):=by
  unfold fr6;rw[h1,zX5];exact zXn p.length (yA 0) _ _ _ _ _ _ (p.map yA) (zX5 ..)
 unfold fr7 EY aI;rw[h2,zX5];simp only[yDe,yA9,yA0,yAm,zZj,zYd,zY4,yCh,yCe,zYw];rw[show 6+p.length=p.length+1+1+1+1+1+1 by omega];simp only[yBo,List.drop_replicate];rw[show p.length+4-p.length=4 by omega]
def zQt {k:Int} {p:List Int} (k0:0<=k) (k1:k<=255) (hb:BY p) (hp:p.length<=200):BY (aI k p.length++p):=by
 intro x hx
 rcases zYy.1 hx with hx|hx
 ·unfold aI at hx;simp only[zZg,yBj,yCo]at hx;omega
 ·exact hb x hx
theorem zTg (k:Int) (p:List Int) (k0:0<=k) (k1:k<=255) (hb:BY p) (hp:p.length<=200):xP prog 135 [iA k,zD yA p] [] (.tup [zD yA (YB k p),iA 0]) []:=by
 have hlp:=zA yA p;have kz:=zCr ((p.map yA).length) (by omega) (by omega);have hh:∀y,(p.map yA)[0]? =some y->y.cells.length=1:=zN _ _ (λ_=>rfl);have hnn:6+((p.map yA).length:Int)+4=((p.length+10:Nat):Int):=by omega
 rw[hnn]at kz;have hX:=zTf k p hp;have hdb:=zQt k0 k1 hb hp
 have kc:xP prog 138 [.sl false (((fr7 k p).drop 2).take (6+p.length-2))] [] (uA (eK (aI k p.length++p))) []:=by
  rw[hX,<-yBc,<-yBd]
  have e:((EY k p 0).drop 2).take (6+p.length-2)=aI k p.length++p:=by
   unfold EY;rw[yA9,zY4,yA0,yA0,yBo,yBo,zYq];exact yDw (by unfold aI;simp;omega)
  rw[e];exact zQs _ (by unfold aI;simp;omega) hdb
 unfold fr7 fr6 at kc hX;unfold YB;have hbl:=zOi (eK (aI k p.length++p))
 have hfl:∀i,i<4->(EY k p (i+1)).map yA=((EY k p i).map yA).set (p.length+6+i) (yA ((GK (eK (aI k p.length++p))).getD i default)):=λi hi=>by
  have h1:=zI6 (90::165::(aI k p.length++p)) (GK (eK (aI k p.length++p))) 0 i (by rw[hbl];exact hi);rw[hbl,show(90::165::(aI k p.length++p)).length+i=p.length+6+i by simp[aI]<;>omega]at h1;unfold EY;rw[<-h1,zZ8]
 (refine eM call135 λF hF=>?_)
 (have zc1:=kz;have zc2:=kc;(repeat' (first|refine uJ ?_|apply xL|apply wB|intro hc|(refine zE ?_;first|refine SM ?_|(refine uB ?_;first|refine fT tok Z Z Z Z Z Z Z (by omega) (by omega) Z ?_|refine YC tok Z Z Z Z Z Z Z Z 2 (6+p.length) Z (by omega) (by omega) (by omega) Z ?_)|(refine qE (NE tok Z Z Z Z Z Z Z hh Z (by show _<=p.length+4;omega)) Z Z Z ?_))|fail))<;>clear zc1 zc2)
 (refine zS (4) [23] [] [6,7,8] [52,6,7,8] Z (λi T U=>⟨(52,iA i)::T,(23,.arr 1 ((EY k p i).map yA) false)::U⟩) ?_;(conv=>whnf);refine⟨by(rw[<-hX];rfl),?_,?_⟩)
 ·intro i hi;have e:=hfl i hi
  have hbe:(GK (eK (aI k p.length++p))).getD i default=IntKind.u8.wrap ((eK (aI k p.length++p)).fdiv (2 ^ (min (8*(3-(i:Int))).toNat IntKind.u32.bits))):=by
   unfold GK;rw[zYc,zX8,zY5 hi];rfl
  rw[hbe,show p.length+6+i=(6+(p.length:Int)+i).toNat by omega]at e;rw[e];clear hfl hX kc e hbe
  have hlen:((EY k p i).map yA).length=p.length+10:=by
   unfold EY;simp[aI,GK];omega
  have hy:((EY k p i).map yA)[(6+(p.length:Int)+i).toNat]? =some (yA ((EY k p i).getD (6+(p.length:Int)+i).toNat default)):=zM yA _ _ (by rw[zX5]at hlen;omega);generalize (EY k p i).getD (6+(p.length:Int)+i).toNat default=y0 at *;rw[<-hlp]at hy⊢;generalize eK (aI k p.length++p)=s at *;generalize (EY k p i).map yA=X at*
  (refine WW ?_)
  rfl
 ·(refine WW ?_)
  refine zI [] Z Z ?_ Z
  show AV.tup [.sl false (List.take (p.length+10) ((EY k p 4).map yA)),iA 0]=_
  have e:EY k p 4=90::165::(aI k p.length++p)++GK (eK (aI k p.length++p)):=by
   unfold EY;rw[zYe (by rw[hbl];omega),yAa,yDd,zY4]
  rw[e,zYe (by rw[zX5];simp[aI,GK]<;>omega)];rfl
def zOj (v n : Int) (h1 : 1 ≤ n) : -n < v.tmod n ∧ v.tmod n < n ∧ v % n=if v.tmod n<0 then v.tmod n+n else v.tmod n:=by
  have e0:=yB6 v (show n≠0 by omega);have e1:=yBu v (show 0<n by omega)
  have e2 : v.tmod n = if 0 ≤ v ∨ n ∣ v then v % n else v % n - n := by rw[Int.tmod_eq_emod];have:(n.natAbs:Int)=n:=by omega
                                                                        split<;>omega
  rw[e2];split
  · refine⟨by omega,by omega,?_⟩;rw[zX2 (by omega)]
  · rename_i hd;have:v % n≠0:=λh=>hd (.inr (Int.dvd_of_emod_eq_zero h))
    refine⟨by omega,by omega,?_⟩;rw[zX3 (by omega)];omega
def zCs (v n:Int) (h1:1<=n) (h2:n<=1099511627776):xP prog 14 [iA v,iA n] [] (iA (v % n)) []:=by
 obtain⟨b1,b2,e⟩:=zOj v n h1;by_cases h:v.tmod n<0
 ·rw[e,zX3 h]
  (refine eM call14 λF hF=>?_)
  (repeat' (first|refine YA ?_|refine xL (λhc=>?_) λhc=>?_|fail))
  exact zJ
 ·rw[e,zX2 h]
  (refine eM call14 λF hF=>?_)
  (repeat' (first|refine YA ?_|refine xL (λhc=>?_) λhc=>?_|fail))
  exact zJ
structure Dk where
 l:List Int
 a:Nat
 h:a<=l.length
 hl:l.length<=9223372036854775807
def PD (d:Dk):xN:= .box [zD iA d.l,iA d.a]
def nx (d:Dk) (n:Int):Int:=if d.a<d.l.length then d.l.getD d.a 0 % n else 0
def ad (d:Dk):Dk:=if h:d.a<d.l.length then⟨d.l,d.a+1,h,d.hl⟩else d
def wW (d:Dk) (n:Int) (h1:1<=n):0<=nx d n/\nx d n<n:=by
 unfold nx;split
 ·exact⟨yB6 _ (by omega),yBu _ (by omega)⟩
 ·omega
def zQu (l:List Int) (hl:l.length<=9223372036854775807):xP prog 11 [zD iA l] [] (.ptr 1000 0 0) [(1000,PD ⟨l,0,zYl _,hl⟩)]:=by
 (refine eM call11 λF hF=>?_)
 repeat' (first|refine wL tok Z Z ?_|(first|refine xS ?_|refine xC ?_|refine vQ Z ?_|refine yC Z ?_|refine zU Z ?_|refine xH Z (λhc=>?_) λhc=>?_|refine yZ ?_|refine yU ?_|refine xB ?_|refine yQ ?_)|refine uI ?_|refine qE (jM (v:= .agg _) 1000 Z Z) Z Z Z ?_)
 exact zL [1000] Z Z Z Z
def vZ (d:Dk) (n:Int) (h1:1<=n) (h2:n<=1099511627776):xP prog 15 [.ptr 1000 0 0,iA n] [(1000,PD d)] (iA (nx d n)) [(1000,PD (ad d))]:=by
 have hl:(d.l.map iA).length=d.l.length:=by simp
 have hb:=d.hl;by_cases h:d.a<d.l.length
 ·have hy:=yN iA d.l ((d.a:Int)+1-1) (by omega) (by omega);rw[show nx d n=d.l.getD ((d.a:Int)+1-1).toNat 0 % n by unfold nx;rw[zX3 h,show((d.a:Int)+1-1).toNat=d.a by omega]];rw[show ad d=⟨d.l,d.a+1,h,d.hl⟩ by unfold ad;rw[dif_pos h]]
  (refine eM call15 λF hF=>?_)
  (repeat' (first|refine YA ?_|refine xL (λhc=>?_) λhc=>?_|(refine zE ?_;refine xJ ?_;refine zP (zH (zCs _ _ h1 h2) Z Z Z Z Z) Z ?_)|fail))
  exact zL [1000] Z Z Z Z
 ·rw[show nx d n=0 by unfold nx;rw[zX2 h],show ad d=d by unfold ad;rw[dif_neg h]]
  (refine eM call15 λF hF=>?_)
  (repeat' (first|refine YA ?_|refine xL (λhc=>?_) λhc=>?_|(refine zE ?_;refine xJ ?_;refine zP (zH (zCs _ _ h1 h2) Z Z Z Z Z) Z ?_)|fail))
  exact zL [1000] Z Z Z Z
def jW (d:Dk) (lo hi:Int) (h1:0<=lo) (h2:lo<=hi) (h3:hi<=1000000000):xP prog 41 [.ptr 1000 0 0,iA lo,iA hi] [(1000,PD d)] (iA (lo+nx d (hi-lo+1))) [(1000,PD (ad d))]:=by
 have hb:=wW d (hi-lo+1) (by omega)
 (refine eM call41 λF hF=>?_)
 (repeat' (first|refine YA ?_|refine xL (λhc=>?_) λhc=>?_|(refine zE ?_;refine xJ ?_;refine qE (zH (vZ d _ (by omega) (by omega)) Z Z Z Z Z) Z Z Z ?_)|fail))
 exact zL [1000] Z Z Z Z
structure Lg where
 jn:Int
 ph:Int
 fr:Int
 to:Int
 sc:Int
structure Rq where
 id:Int
 vh:Int
 cls:Int
 til:Int
 legs:List Lg
instance:Inhabited Lg:=⟨⟨0,0,0,0,0⟩⟩
instance:Inhabited Rq:=⟨⟨0,0,0,0,[]⟩⟩
def xW (l:Lg):AV:= .agg [iA l.jn,iA l.ph,iA l.fr,iA l.to,iA l.sc]
def yL (r:Rq):AV:= .agg [iA r.id,iA r.vh,iA r.cls,iA r.til,zD xW r.legs]
def plB (j p:Int):Bool:=decide (0<=j/\j<4/\0<=p/\p<8)
def mwB (j p f t now:Int):Bool:=decide (0<=j/\j<4/\0<=p/\p<8/\0<=now/\now<=1073741824/\0<=f/\f<=t/\t<=600)
def mwF (j p f t now:Int):Lg:=if mwB j p f t now=true then⟨j,p,now+f,now+t,-1⟩else⟨0,0,0,0,0⟩
def IF (l:Lg):Bool:=decide (0<=l.jn/\l.jn<4/\0<=l.ph/\l.ph<8/\0<=l.fr/\l.fr<=l.to/\l.to<=2147483648/\ -1<=l.sc/\l.sc<=1073741824)
def liB (l:Lg) (now:Int):Bool:=decide (l.fr<=now/\now<=l.to)
def YD (l:Lg) (now:Int):Lg:=if liB l now=true then(if l.sc= -1 then⟨l.jn,l.ph,l.fr,l.to,now⟩else l)else⟨l.jn,l.ph,l.fr,l.to,-1⟩
def zCt (j p:Int):xP prog 271 [iA j,iA p] [] (bA (plB j p)) []:=by
 (cases hb:plB j p with|false=>((refine eM call271 λF hF=>?_);((refine WW (I4 (λhc hc hc=>?_) (λhc hc hc=>?_) (λhc hc=>?_) λhc=>?_)));all_goals (first|exact zJ|(simp only[plB,zYj]at hb;first|(exfalso;omega)|(apply qK;(exact zJ);simp only[qQ,zYj,zX9,zY6,zZa,zZb,zZ7,yBe];omega))))|true=>(simp only[plB,zX9]at hb;(refine eM call271 λF hF=>?_);((refine WW ?_));all_goals (first|exact zJ|(exfalso;omega)|(apply qK;(exact zJ);simp only[qQ,zYj,zX9,zY6,zZa,zZb,zZ7,yBe];omega))))
def zCu (j p f t now:Int):xP prog 244 [iA j,iA p,iA f,iA t,iA now] [] (.tup [xW (mwF j p f t now),iA (if mwB j p f t now=true then 0 else 8)]) []:=by
 have c1:=zCt j p;unfold mwF
 cases hb:mwB j p f t now with
 | false=>
  rw[zX2 zYp,zX2 zYp];unfold mwB at hb;rw[zYj]at hb;unfold plB at c1;unfold xW;by_cases hp:0<=j/\j<4/\0<=p/\p<8
  ·rw[zYa hp]at c1
   (refine eM call244 λF hF=>?_)
   (have zc1:=c1;refine WW (I5 (λhc=>?_) (λhc hc=>?_) (λhc hc hc=>?_) (λhc hc hc hc=>?_) (λhc hc hc hc=>?_))<;>clear zc1)
   all_goals (first|exact zJ|(exfalso;omega))
  ·rw[zYb hp]at c1
   (refine eM call244 λF hF=>?_)
   (have zc1:=c1;refine WW ?_;clear zc1)
   all_goals (first|exact zJ|(exfalso;omega))
 |true=>
  rw[zX3 Z,zX3 Z];unfold mwB at hb;rw[zX9]at hb;unfold plB at c1;rw[zYa (by omega)]at c1;unfold xW
  (refine eM call244 λF hF=>?_)
  (have zc1:=c1;refine WW ?_;clear zc1)
  exact zJ
def zI7 (l:Lg) (now:Int):xP prog 122 [xW l,iA now] [] (bA (liB l now)) []:=by
 (cases hb:liB l now with|false=>((refine eM call122 λF hF=>?_);((refine WW (I2 (λhc=>?_) λhc=>?_)));all_goals (first|exact zJ|(simp only[liB,zYj]at hb;first|(exfalso;omega)|(apply qK;(exact zJ);simp only[qQ,zYj,zX9,zY6,zZa,zZb,zZ7,yBe];omega))))|true=>(simp only[liB,zX9]at hb;(refine eM call122 λF hF=>?_);((refine WW ?_));all_goals (first|exact zJ|(exfalso;omega)|(apply qK;(exact zJ);simp only[qQ,zYj,zX9,zY6,zZa,zZb,zZ7,yBe];omega))))
def fR (l:Lg) (now:Int):xP prog 172 [xW l,iA now] [] (xW (YD l now)) []:=by
 have c:=zI7 l now;unfold YD;generalize liB l now=b at*
 cases b with
 |false=>
  rw[zX2 zYp];unfold xW at*
  (refine eM call172 λF hF=>?_)
  (have zc1:=c;refine WW ?_;clear zc1)
  exact zJ
 | true=>
  rw[zX3 Z];by_cases h:l.sc= -1
  ·rw[zX3 h];unfold xW at*
   (refine eM call172 λF hF=>?_)
   (have zc1:=c;refine WW ?_;clear zc1)
   exact zJ
  ·rw[zX2 h];unfold xW at*
   (refine eM call172 λF hF=>?_)
   (have zc1:=c;refine WW ?_;clear zc1)
   exact zJ
def zI8 (l:Lg):xP prog 300 [xW l] [] (bA (IF l)) []:=by
 have c1:=zCt l.jn l.ph
 cases hb:IF l with
 | false=>
  unfold IF at hb;rw[zYj]at hb;unfold plB at c1;by_cases hp:0<=l.jn/\l.jn<4/\0<=l.ph/\l.ph<8
  ·rw[zYa hp]at c1
   (refine eM call300 λF hF=>?_)
   (have zc1:=c1;refine WW (I5 (λhc hc hc hc=>?_) (λhc hc hc hc=>?_) (λhc hc hc=>?_) (λhc hc=>?_) λhc=>?_)<;>clear zc1)
   all_goals (first|exact zJ|(exfalso;omega)|(apply qK;(exact zJ);simp only[qQ,zYj,zX9,zY6,zZa,zZb,zZ7,yBe];omega))
  ·rw[zYb hp]at c1
   (refine eM call300 λF hF=>?_)
   (have zc1:=c1;refine WW ?_;clear zc1)
   all_goals (first|exact zJ|(exfalso;omega)|(apply qK;(exact zJ);simp only[qQ,zYj,zX9,zY6,zZa,zZb,zZ7,yBe];omega))
 |true=>
  unfold IF at hb;rw[zX9]at hb;unfold plB at c1;rw[zYa (by omega)]at c1
  (refine eM call300 λF hF=>?_)
  (have zc1:=c1;refine WW ?_;clear zc1)
  all_goals (first|exact zJ|(exfalso;omega)|(apply qK;(exact zJ);simp only[qQ,zYj,zX9,zY6,zZa,zZb,zZ7,yBe];omega))
def dF:List Lg->List Lg->Bool
 |_,[]=>true
 |pre,x::post=>IF x&&(!(pre.any λy=>y.jn==x.jn)&&dF (pre++[x]) post)
def vgF (l:List Lg):Bool:=decide (1<=(l.length:Int)/\(l.length:Int)<=3)&&dF [] l
def zOk {pre post:List Lg} {x:Lg} (h:IF x=false):dF pre (x::post)=false:=by simp[dF,h]
def zOl {pre post:List Lg} {x y:Lg} (hy:y∈pre) (h:y.jn=x.jn):dF pre (x::post)=false:=by
 have:(pre.any λy=>y.jn==x.jn)=true:=zZy.2 ⟨y,hy,by simpa using h⟩;simp[dF,this]
def zEo {pre post:List Lg} {x:Lg} (h:IF x=true) (hn:∀y∈pre,y.jn≠x.jn):dF pre (x::post)=dF (pre++[x]) post:=by
 have:(pre.any λy=>y.jn==x.jn)=false:=by simpa using hn
 simp[dF,h,this]
def zCv (l:List Lg):xP prog 274 [zD xW l] [] (bA (vgF l)) []:=by
 have hl:=zA xW l;unfold vgF;by_cases h3:1<=(l.length:Int)/\(l.length:Int)<=3
 case neg=>
  rw[zYb h3,zZv];by_cases h1:1<=(l.length:Int)
  ·(refine eM call274 λF hF=>?_)
   (refine WW ?_)
   exact zJ
  ·(refine eM call274 λF hF=>?_)
   (refine WW ?_)
   exact zJ
 rw[zYa h3,zYr];obtain⟨h1,h3⟩:=h3
 (refine eM call274 λF hF=>?_)
 (refine WW ?_)
 (refine kN (l) [] [] [0,15,16] [17,0,15,16] Z (λi pre T U zs=>(∀post,l=pre++post->dF [] l=dF pre post)/\zs=⟨(17,iA i)::T,U⟩) ?_;(conv=>whnf);refine⟨?_,?_,?_⟩)
 ·exact⟨λpost h=>by rw[h];rfl,rfl⟩
 ·rintro i pre x post st hx hi ⟨hp,rfl⟩;have hy:=xQ xW hx hi;have hlt:=yW hx hi;rw[hp _ hx];have cv:=zI8 x
  have hnext:IF x=true->(∀y∈pre,y.jn≠x.jn)->∀p,l=(pre++[x])++p->dF pre (x::post)=dF (pre++[x]) p:=λa b p h=>by
   have e:p=post:=by rw[hx,zYw]at h;simpa using h.symm
   rw[e];exact zEo a b
  cases hv:IF x with
  |false=>
   rw[zOk hv];rw[hv]at cv;clear hx hp hnext
   (have zc1:=cv;refine WW ?_;clear zc1)
   exact zJ
  | true=>
   rw[hv]at cv;have ht:l.take i=pre:=by rw[hx,<-hi];simp
   have hl2:(List.map xW (List.take (i:Int).toNat l)).length=(l.take i).length:=zA xW (l.take i);have hl3:(l.take i).length=i:=by rw[ht];exact hi
   (have zc1:=cv;refine WW ?_;clear zc1)
   (refine kN (l.take i) [4] [4] [0,4,15,16,17,27,28] [29,0,4,15,16,17,27,28] Z (λi pre T U zs=>(∀y∈pre,y.jn≠x.jn)/\zs=⟨(29,iA i)::T,U⟩) ?_;(conv=>whnf);refine⟨?_,?_,?_⟩)
   ·exact⟨by simp,rfl⟩
   ·rintro k pr y po st2 hq hk ⟨hp2,rfl⟩;have hy2:=xQ xW hq hk;have hlt2:=yW hq hk;by_cases he:y.jn=x.jn
    ·rw[zOl (by rw[<-ht,hq];simp) he];clear hq hx hp hnext
     (refine WW ?_)
     exact zJ
    ·have hp3:∀z∈pr++[y],z.jn≠x.jn:=λz hz=>by
      simp only[zYy,zZd]at hz
      rcases hz with hz|rfl
      ·exact hp2 z hz
      ·exact he
     clear hq hx hp hnext
     (refine WW ?_)
     exact⟨hp3,rfl⟩
   ·rintro st2 ⟨hp2,rfl⟩;have hnx:=hnext hv (by rw[<-ht];exact hp2);clear hx hp hnext
    (refine WW ?_)
    exact⟨hnx,rfl⟩
 ·rintro st ⟨hp,rfl⟩;rw[hp [] zW]
  (refine WW ?_)
  exact zJ
structure RqO (r:Rq):Prop where
 i0:0<=r.id
 i1:r.id<=4294967295
 v0:0<=r.vh
 v1:r.vh<=4294967295
 c0:0<=r.cls
 c1:r.cls<=3
 t0:0<=r.til
 t1:r.til<=2147483648
 lg:vgF r.legs=true
structure ZN (l:List Rq):Prop where
 ok:∀r∈l,RqO r
 so:l.Pairwise λa b=>a.id<b.id
 n4:l.length<=4
theorem ZN.lt {l:List Rq} (h:ZN l) {i:Nat} (h0:0<i) (hi:i<l.length):(l.getD (i-1) default).id<(l.getD i default).id:=by
 have:=List.pairwise_iff_getElem.1 h.so (i-1) i (by omega) hi (by omega);simpa [List.getD,hi,show i-1<l.length by omega]using this
def IG {l:List Lg} (h:vgF l=true):1<=(l.length:Int)/\(l.length:Int)<=3:=by
 unfold vgF at h;rw[zYg]at h;exact yB8 h.1
def OK (n:Int):xP prog 272 [iA n] [] (bA (decide (0<=n/\n<=4294967295))) []:=by
 cases hb:decide (0<=n/\n<=4294967295)with
 |false=>(rw[zYj]at hb;(refine eM call272 λF hF=>?_);((refine WW (I2 (λhc=>?_) λhc=>?_)));all_goals (first|exact zJ|(exfalso;omega)|(apply qK;(exact zJ);simp only[qQ,zYj,zX9,zY6,zZa,zZb,zZ7,yBe];omega)))
 |true=>(rw[zX9]at hb;(refine eM call272 λF hF=>?_);((refine WW ?_));all_goals (first|exact zJ|(exfalso;omega)|(apply qK;(exact zJ);simp only[qQ,zYj,zX9,zY6,zZa,zZb,zZ7,yBe];omega)))
def zAk (n:Int):xP prog 273 [iA n] [] (bA (decide (0<=n/\n<=3))) []:=by
 cases hb:decide (0<=n/\n<=3)with
 |false=>(rw[zYj]at hb;(refine eM call273 λF hF=>?_);((refine WW (I2 (λhc=>?_) λhc=>?_)));all_goals (first|exact zJ|(exfalso;omega)|(apply qK;(exact zJ);simp only[qQ,zYj,zX9,zY6,zZa,zZb,zZ7,yBe];omega)))
 |true=>(rw[zX9]at hb;(refine eM call273 λF hF=>?_);((refine WW ?_));all_goals (first|exact zJ|(exfalso;omega)|(apply qK;(exact zJ);simp only[qQ,zYj,zX9,zY6,zZa,zZb,zZ7,yBe];omega)))
def zCw (n:Int):xP prog 247 [iA n] [] (bA (decide (0<=n/\n<=1073741824))) []:=by
 cases hb:decide (0<=n/\n<=1073741824)with
 |false=>(rw[zYj]at hb;(refine eM call247 λF hF=>?_);((refine WW (I2 (λhc=>?_) λhc=>?_)));all_goals (first|exact zJ|(exfalso;omega)|(apply qK;(exact zJ);simp only[qQ,zYj,zX9,zY6,zZa,zZb,zZ7,yBe];omega)))
 |true=>(rw[zX9]at hb;(refine eM call247 λF hF=>?_);((refine WW ?_));all_goals (first|exact zJ|(exfalso;omega)|(apply qK;(exact zJ);simp only[qQ,zYj,zX9,zY6,zZa,zZb,zZ7,yBe];omega)))
def UT (l:List Rq) (q:Int) (hv:ZN l) (hq:(l.length:Int)<=q):xP prog 246 [zD yL l,iA q] [] (bA true) []:=by
 have hl:=zA yL l;have h4:=hv.n4
 (refine eM call246 λF hF=>?_)
 (refine WW ?_)
 (refine zS (l.length) [] [] [0,16,17] [18,0,16,17] Z (λi T U=>⟨(18,iA i)::T,U⟩) ?_;(conv=>whnf);refine⟨by rfl,?_,?_⟩)
 ·intro i hi;have hy:=zM yL l i hi;have hm:l.getD i default∈l:=by simp[List.getD,hi]
  obtain⟨i0,i1,v0,v1,c0,c1,t0,t1,lg⟩:=hv.ok _ hm;have k1:=OK (l.getD i default).id;have k2:=OK (l.getD i default).vh;have k3:=zAk (l.getD i default).cls;have k4:=zCv (l.getD i default).legs;rw[zYa (by omega)]at k1 k2 k3;rw[lg]at k4;by_cases hi0:0<i
  ·have hyp:=yN yL l ((i:Int)-1) (by omega) (by omega);rw[show((i:Int)-1).toNat=i-1 by omega]at hyp;have hyq:(l.map yL)[((i:Int)-1).toNat]? =some (yL (l.getD (i-1) default)):=by rw[show((i:Int)-1).toNat=i-1 by omega];exact hyp
   have hlt:=hv.lt hi0 hi;clear hyp hm lg;generalize l.getD i default=t at *;generalize l.getD (i-1) default=p at*
   (have zc1:=k1;have zc2:=k2;have zc3:=k3;have zc4:=k4;refine WW ?_;clear zc1 zc2 zc3 zc4)
   rfl
  ·obtain rfl:i=0:=by omega
   clear hm lg;generalize l.getD 0 default=t at*
   (have zc1:=k1;have zc2:=k2;have zc3:=k3;have zc4:=k4;refine WW ?_;clear zc1 zc2 zc3 zc4)
   rfl
 ·(refine WW ?_)
  exact zJ
end Av
end Go.Proofs.YteajjdidebfcjaaGreat
