/- Part 12. -/
import Derived.Test.YteajjdidebfcjaaGreatR11
namespace Go.Proofs.YteajjdidebfcjaaGreat
namespace Av
open Tryz
set_option linter.all false
set_option maxRecDepth 4000
set_option maxHeartbeats 2000000
structure bI (q:Prop):Prop where
 h:q
structure FzD (n:Nat) (K ts:List Nat):Prop where
def I2 {a b:Prop} (x:a) (y:b):a/\b:=⟨x,y⟩
def I4 {a b c d:Prop} (x:a) (y:b) (z:c) (u:d):a/\b/\c/\d:=⟨x,y,z,u⟩
def I5 {a b c d e:Prop} (x:a) (y:b) (z:c) (u:d) (v:e):a/\b/\c/\d/\e:=⟨x,y,z,u,v⟩
def I6 {a b c d e f:Prop} (x:a) (y:b) (z:c) (u:d) (v:e) (w:f):a/\b/\c/\d/\e/\f:=⟨x,y,z,u,v,w⟩
section
variable {P:Program} {K0:List Nat} {F:Fr K0} {m:Nat} {ops:Array Oper} {rest:List Oper} {Q:List FP->St->Prop} {dr:Bool} {fs:List FP} {ty t:Nat} {pos:String} {after:Array Edge} {st:St}
def zVs {n:Nat} {az0:List AV} {h0:List (Nat×xN)} {r:AV} {h1:List (Nat×xN)} (_:yE P n az0 h0 r h1) {az:Array Operand} {ts:Array Nat} (hk:zX P F m ops dr (⟨some t,.call ⟨.value (.func n),az,ts⟩,ty,pos,after,none⟩::rest) st fs Q):zX P F m ops dr (⟨some t,.call ⟨.value (.func n),az,ts⟩,ty,pos,after,none⟩::rest) st fs Q:=hk
def zAp {n:Nat} {K ts:List Nat} (_:FzD n K ts) {az:Array Operand} {tz:Array Nat} (hk:zX P F m ops dr (⟨some t,.call ⟨.value (.func n),az,tz⟩,ty,pos,after,none⟩::rest) st fs Q):zX P F m ops dr (⟨some t,.call ⟨.value (.func n),az,tz⟩,ty,pos,after,none⟩::rest) st fs Q:=hk
def PL {tm:List (Nat×AV)} {h:List (Nat×xN)} {Q:List FP->St->Prop} {n:Nat} {K ts:List Nat} (_:FzD n K ts) (hK:K0.all (K.contains ·)=true) (h1:fC K (zC h) tm ts λT=>jV K (zC h) K λU=>zX P F m ops false rest ⟨T,U⟩ fs Q):zX P F m ops false rest ⟨tm,h⟩ fs Q:=kJ K ts hK h1
end
def CC {p q:Prop} (k:q) (h:bI q->p:=by(intro zq9;(((first|refine zVs zc ?_|refine CS ?_);first|refine wG (zH (zc) Z Z Z Z Z) Z ?_|refine uS (zH (zc) Z Z Z Z Z) Z Z Z ?_|refine ZU (zH (zc) Z Z Z Z Z) Z Z Z ?_|refine wG (kD (zc) Z Z Z Z Z) Z ?_|refine uS (kD (zc) Z Z Z Z Z) Z Z Z ?_));exact zq9.h)):p:=h ⟨k⟩
theorem PT {p q:Prop} (k:q) (h:bI q->p:=by(intro zq9;(first|refine vW tok Z Z ?_|(refine PQ ?_;first|refine zZt Z Z ?_|refine zYp Z Z Z Z ?_)|(refine wL ?_;first|refine wG (zE2 Z Z Z (by unfold zLu;omega)) Z ?_|refine wG (zE3 Z Z Z (by unfold zLu;omega)) Z ?_|refine wG (zP7 Z Z Z) Z ?_|refine wG (RS Z Z ⟨by omega,by omega⟩) Z ?_|refine wG (zQj Z Z ⟨by omega,by omega⟩) Z ?_|refine wG (RT Z Z ⟨by omega,by omega⟩) Z ?_|refine wG (zQk Z Z (by assumption) (by omega)) Z ?_|refine wG (zQl Z Z (by omega)) Z ?_|refine wG (zQm Z Z) Z ?_|refine wG (zMd Z Z (by omega)) Z ?_|refine wG (zMe Z Z (by omega)) Z ?_|refine wG (ZC (.inl ⟨rfl,rfl⟩) Z Z (by omega)) Z ?_|refine wG (ZC (.inr ⟨rfl,rfl⟩) Z Z (by omega)) Z ?_|refine wG (LR tok Z Z Z Z (.inl ⟨rfl,rfl⟩)) Z ?_|refine wG (LR tok Z Z Z Z (.inr ⟨rfl,rfl⟩)) Z ?_|refine wG (zAy tok (.inl ⟨rfl,rfl⟩) Z Z Z) Z ?_|refine wG (xE tok (.inl ⟨rfl,rfl⟩) Z Z Z Z) Z ?_|refine wG (zMb Z Z) Z ?_|refine wG (zQp Z Z) Z ?_|refine wG (zMc Z Z) Z ?_|refine wG (zA4 Z Z (by assumption)) Z ?_|refine wG (LS Z Z) Z ?_|refine wG (zA5 Z Z (by assumption)) Z ?_|refine wG (LT Z Z) Z ?_)|(refine zVw ?_;first|refine wG (UV tok Z Z Z Z Z (by omega) VO Z Z) Z ?_|refine wG (UT tok Z Z Z Z Z Z (by omega) (by omega) Z) Z ?_|refine wG (VN tok Z Z Z Z Z Z (by omega) (by omega)) Z ?_)|(refine zQe ?_;first|refine wG (IQ tok Z Z Z VO Z) Z ?_|refine wG (IP tok Z Z Z VO Z) Z ?_|refine wG (NY tok Z Z Z Z VO Z) Z ?_|refine wG (NX tok Z Z Z Z VO Z) Z ?_)|(refine zVx ?_;first|refine wG (VL tok Z Z Z Z Z Z Z Z) Z ?_|refine wG (UU tok Z VO Z Z Z Z Z Z) Z ?_)|(refine xC ?_;first|refine wF tok Z Z Z Z Z Z Z (by first|(intro y hy;cases hy;rfl)|exact xO _ _ (λ_=>rfl)) Z Z Z (by first|omega|(simp;done)|(simp;omega)) Z ?_|refine aE tok Z Z Z Z Z Z Z Z Z Z Z (by first|(intro y hy;cases hy;rfl)|exact xO _ _ (λ_=>rfl)) (by first|omega|(simp;done)|(simp;omega)) Z ?_)|(refine DM ?_;first|refine wG (zQo Z ⟨by omega,by omega⟩) Z ?_)|(refine zP8 ?_;first|refine wG (DN tok Z Z Z Z ⟨by omega,by omega⟩) Z ?_|refine wG (CJ tok Z Z Z Z) Z ?_|refine wG (CO tok Z Z Z Z Z Z Z VO) Z ?_)|(refine fB ?_;first|refine HM tok Z Z Z Z Z (by first|(intro y hy;cases hy;rfl)|exact xO _ _ (λ_=>rfl)|assumption|(simp;done)) (by omega) vA (by first|exact yEz.symm|rfl) Z ?_|refine zV1 tok Z Z Z Z Z (by first|(intro y hy;cases hy;rfl)|exact xO _ _ (λ_=>rfl)|assumption|(simp;done)) (by omega) vA (by first|exact yE0.symm|rfl) Z ?_|refine zQq tok Z Z Z Z Z Z (by first|(intro y hy;cases hy;rfl)|exact xO _ _ (λ_=>rfl)|assumption|(simp;done)) (by omega) (by omega) (by first|omega|(simp;omega)) (by first|assumption|rfl) Z ?_));exact zq9.h)):p:=h ⟨k⟩
def SB {p q:Prop} (k:q) (h:bI q->p:=by(intro zq9;refine zE ?_;(first|(refine zA7 ?_;refine wG (jZ Z Z Z) Z ?_)|refine RQ tok Z Z Z Z ?_|(refine XB ?_;first|refine zV8 tok Z Z Z Z Z Z ?_|refine WR tok Z Z Z ?_|refine zV5 tok Z Z Z VO Z Z Z Z Z Z ?_|refine zA8 tok Z Z Z VO Z Z Z Z Z Z Z Z ?_)|refine qJ ?_|refine IS SU ?_);exact zq9.h)):p:=h ⟨k⟩
def SC {p q:Prop} (k:q) (h:bI q->p:=by(intro zq9;((first|(refine zAp zf1 ?_;refine PL zf1 Z ?_;(conv=>whnf);(try simp only[yA9,yAf]))|(refine zAp zf2 ?_;refine PL zf2 Z ?_;(conv=>whnf);(try simp only[yA9,yAf]))|(refine zAp zf3 ?_;refine PL zf3 Z ?_;(conv=>whnf);(try simp only[yA9,yAf]))|skip);first|(have zc:=zc1;refine CC ?_;clear zc)|(have zc:=zc2;refine CC ?_;clear zc)|(have zc:=zc3;refine CC ?_;clear zc)|(have zc:=zc4;refine CC ?_;clear zc)|(have zc:=zc5;refine CC ?_;clear zc)|(have zc:=zc6;refine CC ?_;clear zc)|(have zc:=zc7;refine CC ?_;clear zc)|(have zc:=zc8;refine CC ?_;clear zc)|(have zc:=zc9;refine CC ?_;clear zc)|(have zc:=zc10;refine CC ?_;clear zc)|(have zc:=zc11;refine CC ?_;clear zc)|(have zc:=zc12;refine CC ?_;clear zc)|(have zc:=zc13;refine CC ?_;clear zc)|(have zc:=zc14;refine CC ?_;clear zc)|(have zc:=zc15;refine CC ?_;clear zc)|(have zc:=zc16;refine CC ?_;clear zc)|fail);exact zq9.h)):p:=h ⟨k⟩
def WZ {p q:Prop} (k:q) (h:bI q->p:=by(intro zq9;(repeat1' (first|(refine zE ?_;first|refine PT ?_|(refine xT ?_;refine SC ?_)|refine SB ?_)|refine xS ?_|refine xD ?_|refine xA ?_|refine xF ?_));exact zq9.h)):p:=h ⟨k⟩
def WS {p q:Prop} (k:q) (h:bI q->p:=by(intro zq9;(repeat1' (first|(refine zE ?_;first|refine PT ?_|(refine xT ?_;refine SC ?_)|refine SB ?_)));exact zq9.h)):p:=h ⟨k⟩
def WV {p q:Prop} (k:q) (h:bI q->p:=by(intro zq9;(repeat1' (first|(refine zE ?_;first|refine PT ?_|(refine xT ?_;refine SC ?_)|((fail_if_success refine xB ?_);refine SB ?_))));exact zq9.h)):p:=h ⟨k⟩
def WY {p q:Prop} (k:q) (h:bI q->p:=by(intro zq9;(repeat1' (first|(refine zE ?_;first|refine PT ?_|(refine xT ?_;refine SC ?_)|((fail_if_success refine xB ?_);refine SB ?_))|refine xS ?_|refine xD ?_|refine xA ?_|refine xF ?_));exact zq9.h)):p:=h ⟨k⟩
def WT {p q:Prop} (k:q) (h:bI q->p:=by(intro zq9;(repeat1' (first|(refine zE ?_;first|refine PT ?_|(refine xT ?_;refine SC ?_)|((fail_if_success refine XB ?_);refine SB ?_))|refine xS ?_|refine xD ?_|refine xA ?_|refine xF ?_));exact zq9.h)):p:=h ⟨k⟩
def SG {p q:Prop} (k:q) (h:bI q->p:=by(intro zq9;refine zE ?_;refine PQ ?_;((refine VH Z Z (λzh9=>?_) λzh9=>?_)<;>(try simp only[qN,yAc,yAr,yBf,yCg,yC7,yCt,yBg,yBt,yFn,yFm,yD4]at zh9));(all_goals (repeat revert zh9));first|done|(exact zq9.h;done)|(exact zq9.h.1;exact zq9.h.2;done)|(exact zq9.h.1;exact zq9.h.2.1;exact zq9.h.2.2;done)|(exact zq9.h.1;exact zq9.h.2.1;exact zq9.h.2.2.1;exact zq9.h.2.2.2;done)|(exact zq9.h.1;exact zq9.h.2.1;exact zq9.h.2.2.1;exact zq9.h.2.2.2.1;exact zq9.h.2.2.2.2;done)|(exact zq9.h.1;exact zq9.h.2.1;exact zq9.h.2.2.1;exact zq9.h.2.2.2.1;exact zq9.h.2.2.2.2.1;exact zq9.h.2.2.2.2.2;done))):p:=h ⟨k⟩
def SK {p q:Prop} (k:q) (h:bI q->p:=by(intro zq9;((refine xL Z (λzh9=>?_) λzh9=>?_)<;>(try simp only[qN,yAc,yAr,yBf,yCg,yC7,yCt,yBg,yBt,yFn,yFm,yD4]at zh9));(all_goals (repeat revert zh9));first|done|(exact zq9.h;done)|(exact zq9.h.1;exact zq9.h.2;done)|(exact zq9.h.1;exact zq9.h.2.1;exact zq9.h.2.2;done)|(exact zq9.h.1;exact zq9.h.2.1;exact zq9.h.2.2.1;exact zq9.h.2.2.2;done)|(exact zq9.h.1;exact zq9.h.2.1;exact zq9.h.2.2.1;exact zq9.h.2.2.2.1;exact zq9.h.2.2.2.2;done)|(exact zq9.h.1;exact zq9.h.2.1;exact zq9.h.2.2.1;exact zq9.h.2.2.2.1;exact zq9.h.2.2.2.2.1;exact zq9.h.2.2.2.2.2;done))):p:=h ⟨k⟩
def SM {p q:Prop} (k:q) (h:bI q->p:=by(intro zq9;((refine gB ?_;refine zLh tok Z Z Z Z Z Z Z Z Z Z Z Z Z (by omega) (by omega) Z Z Z ?_));exact zq9.h)):p:=h ⟨k⟩
def SL {p q:Prop} (k:q) (h:bI q->p:=by(intro zq9;(first|(refine xB ?_;refine gO tok Z Z ?_)|(refine xC ?_;refine kI tok Z Z Z Z Z Z (by first|(intro y hy;cases hy;rfl)|exact xO _ _ (λ_=>rfl)) Z Z Z (by first|omega|(simp;done)|(simp;omega)) Z ?_));exact zq9.h)):p:=h ⟨k⟩
def SR {p q:Prop} (k:q) (h:bI q->p:=by(intro zq9;(first|refine xS ?_|refine xD ?_|refine vI Z ?_|refine zY Z ?_|refine zS Z ?_|refine xA ?_|refine yT ?_|refine xF ?_|refine yW ?_);exact zq9.h)):p:=h ⟨k⟩
def SX {p q:Prop} (k:q) (h:bI q->p:=by(intro zq9;(first|refine xS ?_|refine xD ?_|refine zY Z ?_|refine zS Z ?_|refine xA ?_|refine yT ?_|refine xF ?_);exact zq9.h)):p:=h ⟨k⟩
def SN {p q:Prop} (k:q) (h:bI q->p:=by(intro zq9;(first|refine xS ?_|refine xD ?_|refine vI Z ?_|refine zY Z ?_|refine zS Z ?_|refine xA ?_|refine xF ?_|refine yW ?_);exact zq9.h)):p:=h ⟨k⟩
def SQ {p q:Prop} (k:q) (h:bI q->p:=by(intro zq9;(first|refine xS ?_|refine xD ?_|refine vI Z ?_|refine xA ?_|refine yT ?_|refine xF ?_);exact zq9.h)):p:=h ⟨k⟩
structure One (a:Prop):Prop where
 x:a
structure Two (a b:Prop):Prop where
 x:a
 y:b
def wA {a:Prop} (x:a):One a:=⟨x⟩
def xM {a b:Prop} (x:a) (y:b):Two a b:=⟨x,y⟩
def YG {p a b:Prop} (k:Two a b) (h:a->b->p:=by(intro zx8 zy8;refine zE ?_;refine PQ ?_;((refine VH Z Z (λzh9=>?_) λzh9=>?_)<;>(try simp only[qN,yAc,yAr,yBf,yCg,yC7,yCt,yBg,yBt,yFn,yFm,yD4]at zh9));(all_goals (repeat revert zh9));exact zx8;exact zy8)):p:=h k.x k.y
def YG1 {p a:Prop} (k:One a) (h:a->p:=by(intro zx8;refine zE ?_;refine PQ ?_;((refine VH Z Z (λzh9=>?_) λzh9=>?_)<;>(try simp only[qN,yAc,yAr,yBf,yCg,yC7,yCt,yBg,yBt,yFn,yFm,yD4]at zh9));(all_goals (repeat revert zh9));exact zx8)):p:=h k.x
def YK {p a b:Prop} (k:Two a b) (h:a->b->p:=by(intro zx8 zy8;((refine xL Z (λzh9=>?_) λzh9=>?_)<;>(try simp only[qN,yAc,yAr,yBf,yCg,yC7,yCt,yBg,yBt,yFn,yFm,yD4]at zh9));(all_goals (repeat revert zh9));exact zx8;exact zy8)):p:=h k.x k.y
def YK1 {p a:Prop} (k:One a) (h:a->p:=by(intro zx8;((refine xL Z (λzh9=>?_) λzh9=>?_)<;>(try simp only[qN,yAc,yAr,yBf,yCg,yC7,yCt,yBg,yBt,yFn,yFm,yD4]at zh9));(all_goals (repeat revert zh9));exact zx8)):p:=h k.x
def YG0 {p a b:Prop} (k:Two a b) (h:a->b->p:=by(intro zx8 zy8;refine zE ?_;refine PQ ?_;refine VH Z Z (λzh9=>?_) λzh9=>?_;(all_goals (repeat revert zh9));exact zx8;exact zy8)):p:=h k.x k.y
def YK0 {p a b:Prop} (k:Two a b) (h:a->b->p:=by(intro zx8 zy8;refine xL Z (λzh9=>?_) λzh9=>?_;(all_goals (repeat revert zh9));exact zx8;exact zy8)):p:=h k.x k.y
def uL {p q:Prop} (k:q) (h:bI q->p:=by(intro zq9;(first|refine WZ ?_|refine YG ?_|refine YG1 ?_|refine SR ?_|refine YK ?_|refine YK1 ?_);exact zq9.h)):p:=h ⟨k⟩
def WZX {p q:Prop} (k:q) (h:bI q->p:=by(intro zq9;(first|refine WZ ?_|refine YG ?_|refine YG1 ?_|refine SX ?_);exact zq9.h)):p:=h ⟨k⟩
def WZN {p q:Prop} (k:q) (h:bI q->p:=by(intro zq9;(first|refine WZ ?_|refine YG ?_|refine YG1 ?_|refine SN ?_|refine YK ?_|refine YK1 ?_);exact zq9.h)):p:=h ⟨k⟩
def WZB {p q:Prop} (k:q) (h:bI q->p:=by(intro zq9;(first|refine WZ ?_|refine YG ?_|refine YG1 ?_|refine SQ ?_);exact zq9.h)):p:=h ⟨k⟩
def RP {p q:Prop} (k:q) (h:bI q->p:=by(intro zq9;(first|refine WY ?_|refine YG ?_|refine YG1 ?_|refine SR ?_|refine YK ?_|refine YK1 ?_);exact zq9.h)):p:=h ⟨k⟩
def WYB {p q:Prop} (k:q) (h:bI q->p:=by(intro zq9;(first|refine WY ?_|refine YG ?_|refine YG1 ?_|refine SQ ?_);exact zq9.h)):p:=h ⟨k⟩
def WTR {p q:Prop} (k:q) (h:bI q->p:=by(intro zq9;(first|refine WT ?_|refine YG ?_|refine YG1 ?_|refine SR ?_|refine YK ?_|refine YK1 ?_);exact zq9.h)):p:=h ⟨k⟩
def cX {p q:Prop} (k:q) (h:bI q->p:=by(intro zq9;(first|refine WZ ?_|refine YG0 ?_|refine SR ?_|refine YK0 ?_);exact zq9.h)):p:=h ⟨k⟩
def WW {p q:Prop} (k:q) (h:bI q->p:=by(intro zq9;(repeat' (first|refine WZ ?_|refine SG (I2 (λzh8=>?_) λzh8=>?_)|refine SG λzh8=>?_|(refine zE ?_;refine SM ?_)|refine SR ?_|refine SK (I2 (λzh8=>?_) λzh8=>?_)|refine SK λzh8=>?_|fail));(all_goals (repeat revert zh8));first|done|(exact zq9.h;done)|(exact zq9.h.1;exact zq9.h.2;done)|(exact zq9.h.1;exact zq9.h.2.1;exact zq9.h.2.2;done)|(exact zq9.h.1;exact zq9.h.2.1;exact zq9.h.2.2.1;exact zq9.h.2.2.2;done)|(exact zq9.h.1;exact zq9.h.2.1;exact zq9.h.2.2.1;exact zq9.h.2.2.2.1;exact zq9.h.2.2.2.2;done)|(exact zq9.h.1;exact zq9.h.2.1;exact zq9.h.2.2.1;exact zq9.h.2.2.2.1;exact zq9.h.2.2.2.2.1;exact zq9.h.2.2.2.2.2;done))):p:=h ⟨k⟩
def WL {p q:Prop} (k:q) (h:bI q->p:=by(intro zq9;(repeat' (first|refine WY ?_|refine SG (I2 (λzh8=>?_) λzh8=>?_)|refine SG λzh8=>?_|(refine zE ?_;first|refine SL ?_|refine SM ?_)|refine SB ?_|refine SR ?_|refine SK (I2 (λzh8=>?_) λzh8=>?_)|refine SK λzh8=>?_|fail));(all_goals (repeat revert zh8));first|done|(exact zq9.h;done)|(exact zq9.h.1;exact zq9.h.2;done)|(exact zq9.h.1;exact zq9.h.2.1;exact zq9.h.2.2;done)|(exact zq9.h.1;exact zq9.h.2.1;exact zq9.h.2.2.1;exact zq9.h.2.2.2;done)|(exact zq9.h.1;exact zq9.h.2.1;exact zq9.h.2.2.1;exact zq9.h.2.2.2.1;exact zq9.h.2.2.2.2;done)|(exact zq9.h.1;exact zq9.h.2.1;exact zq9.h.2.2.1;exact zq9.h.2.2.2.1;exact zq9.h.2.2.2.2.1;exact zq9.h.2.2.2.2.2;done))):p:=h ⟨k⟩
def WD {p q:Prop} (k:q) (h:bI q->p:=by(intro zq9;(repeat' (first|refine WZ ?_|refine SG (I2 (λzh8=>?_) λzh8=>?_)|refine SG λzh8=>?_|(refine zE ?_;refine SM ?_)|refine SX ?_|fail));(all_goals (repeat revert zh8));first|done|(exact zq9.h;done)|(exact zq9.h.1;exact zq9.h.2;done)|(exact zq9.h.1;exact zq9.h.2.1;exact zq9.h.2.2;done)|(exact zq9.h.1;exact zq9.h.2.1;exact zq9.h.2.2.1;exact zq9.h.2.2.2;done)|(exact zq9.h.1;exact zq9.h.2.1;exact zq9.h.2.2.1;exact zq9.h.2.2.2.1;exact zq9.h.2.2.2.2;done)|(exact zq9.h.1;exact zq9.h.2.1;exact zq9.h.2.2.1;exact zq9.h.2.2.2.1;exact zq9.h.2.2.2.2.1;exact zq9.h.2.2.2.2.2;done))):p:=h ⟨k⟩
def eN {f:Nat} {fn:Func} {body:Code} {args:List AV} {h0:List (Nat×xN)} {r:AV} {h1:List (Nat×xN)} (hf:prog.funcs[f]? =some fn) (able:dS prog f) (h:∀F:Fr (yO h0),F.ro=none/\F.it=false->vK prog F fn.ntmps body ⟨VA 0 args,h0⟩ (Fin TT fn.results.toList h0 r h1)) (hb:fn.body=some body:=by exact Z) (hlen:Nat.ble args.length fn.ntmps=true:=by exact Z) (hnd:vJ h0=true:=by exact Z) (hnd1:vJ h1=true:=by exact Z) (hgs:Nat.ble fn.ntmps GS=true:=by rfl):yE prog f args h0 r h1:=YZ tok hf hb able hlen hnd hnd1 h hgs
def zJ {TT:List TI} {rs:List ResultVar} {h0:List (Nat×xN)} {r:AV} {h1:List (Nat×xN)} {st:St} {vs:List AV} (h:NZ TT st rs=some vs:=by exact Z) (hK:(yO h0).all (([]:List Nat).contains ·)=true:=by exact Z) (hr:XC (wD [] (zC st.h) (DQ vs))=r:=by exact Z) (hh:wY [] (zC st.h)=h1:=by exact Z):Fin TT rs h0 r h1 .ret st:=zK [] h hK hr hh
structure zT2 (A B:Prop):Prop where
  mk::(a1:A) (b1:B)
def vH {A B:Prop} (a1:A) (b1:B):zT2 A B:=⟨a1,b1⟩
def ze2 {A B p:Prop} (z:zT2 A B) (h:A->B->p):p:=h z.a1 z.b1
structure zT3 (A B C:Prop):Prop where
  mk::(a1:A) (b1:B) (c1:C)
def gK {A B C:Prop} (a1:A) (b1:B) (c1:C):zT3 A B C:=⟨a1,b1,c1⟩
def ze3 {A B C p:Prop} (z:zT3 A B C) (h:A->B->C->p):p:=h z.a1 z.b1 z.c1
structure zT4 (A B C D:Prop):Prop where
  mk::(a1:A) (b1:B) (c1:C) (d1:D)
def ZK {A B C D:Prop} (a1:A) (b1:B) (c1:C) (d1:D):zT4 A B C D:=⟨a1,b1,c1,d1⟩
def ze4 {A B C D p:Prop} (z:zT4 A B C D) (h:A->B->C->D->p):p:=h z.a1 z.b1 z.c1 z.d1
structure zT5 (A B C D E:Prop):Prop where
  mk::(a1:A) (b1:B) (c1:C) (d1:D) (e1:E)
def zt5 {A B C D E:Prop} (a1:A) (b1:B) (c1:C) (d1:D) (e1:E):zT5 A B C D E:=⟨a1,b1,c1,d1,e1⟩
def ze5 {A B C D E p:Prop} (z:zT5 A B C D E) (h:A->B->C->D->E->p):p:=h z.a1 z.b1 z.c1 z.d1 z.e1
structure zT6 (A B C D E F:Prop):Prop where
  mk::(a1:A) (b1:B) (c1:C) (d1:D) (e1:E) (f1:F)
def zt6 {A B C D E F:Prop} (a1:A) (b1:B) (c1:C) (d1:D) (e1:E) (f1:F):zT6 A B C D E F:=⟨a1,b1,c1,d1,e1,f1⟩
def ze6 {A B C D E F p:Prop} (z:zT6 A B C D E F) (h:A->B->C->D->E->F->p):p:=h z.a1 z.b1 z.c1 z.d1 z.e1 z.f1
structure zT7 (A B C D E F G:Prop):Prop where
  mk::(a1:A) (b1:B) (c1:C) (d1:D) (e1:E) (f1:F) (g1:G)
def zt7 {A B C D E F G:Prop} (a1:A) (b1:B) (c1:C) (d1:D) (e1:E) (f1:F) (g1:G):zT7 A B C D E F G:=⟨a1,b1,c1,d1,e1,f1,g1⟩
def ze7 {A B C D E F G p:Prop} (z:zT7 A B C D E F G) (h:A->B->C->D->E->F->G->p):p:=h z.a1 z.b1 z.c1 z.d1 z.e1 z.f1 z.g1
structure zT8 (A B C D E F G H:Prop):Prop where
  mk::(a1:A) (b1:B) (c1:C) (d1:D) (e1:E) (f1:F) (g1:G) (h1:H)
def zt8 {A B C D E F G H:Prop} (a1:A) (b1:B) (c1:C) (d1:D) (e1:E) (f1:F) (g1:G) (h1:H):zT8 A B C D E F G H:=⟨a1,b1,c1,d1,e1,f1,g1,h1⟩
def ze8 {A B C D E F G H p:Prop} (z:zT8 A B C D E F G H) (h:A->B->C->D->E->F->G->H->p):p:=h z.a1 z.b1 z.c1 z.d1 z.e1 z.f1 z.g1 z.h1
def yR {Y p q:Prop} (zc0:Y) (k:q) (h:Y->bI q->p:=by(intro zc0 zq9;(first|refine ze2 zc0 (λzc1 zc2=>?_)|refine ze3 zc0 (λzc1 zc2 zc3=>?_)|refine ze4 zc0 (λzc1 zc2 zc3 zc4=>?_)|refine ze5 zc0 (λzc1 zc2 zc3 zc4 zc5=>?_)|refine ze6 zc0 (λzc1 zc2 zc3 zc4 zc5 zc6=>?_)|refine ze7 zc0 (λzc1 zc2 zc3 zc4 zc5 zc6 zc7=>?_)|refine ze8 zc0 (λzc1 zc2 zc3 zc4 zc5 zc6 zc7 zc8=>?_));(repeat' (first|refine WZ ?_|refine SG (I2 (λzh8=>?_) λzh8=>?_)|refine SG λzh8=>?_|(refine zE ?_;refine SM ?_)|refine SR ?_|refine SK (I2 (λzh8=>?_) λzh8=>?_)|refine SK λzh8=>?_|fail));(all_goals (repeat revert zh8));first|done|(exact zq9.h;done)|(exact zq9.h.1;exact zq9.h.2;done)|(exact zq9.h.1;exact zq9.h.2.1;exact zq9.h.2.2;done)|(exact zq9.h.1;exact zq9.h.2.1;exact zq9.h.2.2.1;exact zq9.h.2.2.2;done)|(exact zq9.h.1;exact zq9.h.2.1;exact zq9.h.2.2.1;exact zq9.h.2.2.2.1;exact zq9.h.2.2.2.2;done)|(exact zq9.h.1;exact zq9.h.2.1;exact zq9.h.2.2.1;exact zq9.h.2.2.2.1;exact zq9.h.2.2.2.2.1;exact zq9.h.2.2.2.2.2;done))):p:=h zc0 ⟨k⟩
def zV {Y p q:Prop} (zc0:Y) (k:q) (h:Y->bI q->p:=by(intro zc1 zq9;(repeat' (first|refine WZ ?_|refine SG (I2 (λzh8=>?_) λzh8=>?_)|refine SG λzh8=>?_|(refine zE ?_;refine SM ?_)|refine SR ?_|refine SK (I2 (λzh8=>?_) λzh8=>?_)|refine SK λzh8=>?_|fail));(all_goals (repeat revert zh8));first|done|(exact zq9.h;done)|(exact zq9.h.1;exact zq9.h.2;done)|(exact zq9.h.1;exact zq9.h.2.1;exact zq9.h.2.2;done)|(exact zq9.h.1;exact zq9.h.2.1;exact zq9.h.2.2.1;exact zq9.h.2.2.2;done)|(exact zq9.h.1;exact zq9.h.2.1;exact zq9.h.2.2.1;exact zq9.h.2.2.2.1;exact zq9.h.2.2.2.2;done)|(exact zq9.h.1;exact zq9.h.2.1;exact zq9.h.2.2.1;exact zq9.h.2.2.2.1;exact zq9.h.2.2.2.2.1;exact zq9.h.2.2.2.2.2;done))):p:=h zc0 ⟨k⟩
def WLc {Y p q:Prop} (zc0:Y) (k:q) (h:Y->bI q->p:=by(intro zc0 zq9;(first|refine ze2 zc0 (λzc1 zc2=>?_)|refine ze3 zc0 (λzc1 zc2 zc3=>?_)|refine ze4 zc0 (λzc1 zc2 zc3 zc4=>?_)|refine ze5 zc0 (λzc1 zc2 zc3 zc4 zc5=>?_)|refine ze6 zc0 (λzc1 zc2 zc3 zc4 zc5 zc6=>?_)|refine ze7 zc0 (λzc1 zc2 zc3 zc4 zc5 zc6 zc7=>?_)|refine ze8 zc0 (λzc1 zc2 zc3 zc4 zc5 zc6 zc7 zc8=>?_));(repeat' (first|refine WY ?_|refine SG (I2 (λzh8=>?_) λzh8=>?_)|refine SG λzh8=>?_|(refine zE ?_;first|refine SL ?_|refine SM ?_)|refine SB ?_|refine SR ?_|refine SK (I2 (λzh8=>?_) λzh8=>?_)|refine SK λzh8=>?_|fail));(all_goals (repeat revert zh8));first|done|(exact zq9.h;done)|(exact zq9.h.1;exact zq9.h.2;done)|(exact zq9.h.1;exact zq9.h.2.1;exact zq9.h.2.2;done)|(exact zq9.h.1;exact zq9.h.2.1;exact zq9.h.2.2.1;exact zq9.h.2.2.2;done)|(exact zq9.h.1;exact zq9.h.2.1;exact zq9.h.2.2.1;exact zq9.h.2.2.2.1;exact zq9.h.2.2.2.2;done)|(exact zq9.h.1;exact zq9.h.2.1;exact zq9.h.2.2.1;exact zq9.h.2.2.2.1;exact zq9.h.2.2.2.2.1;exact zq9.h.2.2.2.2.2;done))):p:=h zc0 ⟨k⟩
def WLo {Y p q:Prop} (zc0:Y) (k:q) (h:Y->bI q->p:=by(intro zc1 zq9;(repeat' (first|refine WY ?_|refine SG (I2 (λzh8=>?_) λzh8=>?_)|refine SG λzh8=>?_|(refine zE ?_;first|refine SL ?_|refine SM ?_)|refine SB ?_|refine SR ?_|refine SK (I2 (λzh8=>?_) λzh8=>?_)|refine SK λzh8=>?_|fail));(all_goals (repeat revert zh8));first|done|(exact zq9.h;done)|(exact zq9.h.1;exact zq9.h.2;done)|(exact zq9.h.1;exact zq9.h.2.1;exact zq9.h.2.2;done)|(exact zq9.h.1;exact zq9.h.2.1;exact zq9.h.2.2.1;exact zq9.h.2.2.2;done)|(exact zq9.h.1;exact zq9.h.2.1;exact zq9.h.2.2.1;exact zq9.h.2.2.2.1;exact zq9.h.2.2.2.2;done)|(exact zq9.h.1;exact zq9.h.2.1;exact zq9.h.2.2.1;exact zq9.h.2.2.2.1;exact zq9.h.2.2.2.2.1;exact zq9.h.2.2.2.2.2;done))):p:=h zc0 ⟨k⟩
def WDc {Y p q:Prop} (zc0:Y) (k:q) (h:Y->bI q->p:=by(intro zc0 zq9;(first|refine ze2 zc0 (λzc1 zc2=>?_)|refine ze3 zc0 (λzc1 zc2 zc3=>?_)|refine ze4 zc0 (λzc1 zc2 zc3 zc4=>?_)|refine ze5 zc0 (λzc1 zc2 zc3 zc4 zc5=>?_)|refine ze6 zc0 (λzc1 zc2 zc3 zc4 zc5 zc6=>?_)|refine ze7 zc0 (λzc1 zc2 zc3 zc4 zc5 zc6 zc7=>?_)|refine ze8 zc0 (λzc1 zc2 zc3 zc4 zc5 zc6 zc7 zc8=>?_));(repeat' (first|refine WZ ?_|refine SG (I2 (λzh8=>?_) λzh8=>?_)|refine SG λzh8=>?_|(refine zE ?_;refine SM ?_)|refine SX ?_|fail));(all_goals (repeat revert zh8));first|done|(exact zq9.h;done)|(exact zq9.h.1;exact zq9.h.2;done)|(exact zq9.h.1;exact zq9.h.2.1;exact zq9.h.2.2;done)|(exact zq9.h.1;exact zq9.h.2.1;exact zq9.h.2.2.1;exact zq9.h.2.2.2;done)|(exact zq9.h.1;exact zq9.h.2.1;exact zq9.h.2.2.1;exact zq9.h.2.2.2.1;exact zq9.h.2.2.2.2;done)|(exact zq9.h.1;exact zq9.h.2.1;exact zq9.h.2.2.1;exact zq9.h.2.2.2.1;exact zq9.h.2.2.2.2.1;exact zq9.h.2.2.2.2.2;done))):p:=h zc0 ⟨k⟩
def WDo {Y p q:Prop} (zc0:Y) (k:q) (h:Y->bI q->p:=by(intro zc1 zq9;(repeat' (first|refine WZ ?_|refine SG (I2 (λzh8=>?_) λzh8=>?_)|refine SG λzh8=>?_|(refine zE ?_;refine SM ?_)|refine SX ?_|fail));(all_goals (repeat revert zh8));first|done|(exact zq9.h;done)|(exact zq9.h.1;exact zq9.h.2;done)|(exact zq9.h.1;exact zq9.h.2.1;exact zq9.h.2.2;done)|(exact zq9.h.1;exact zq9.h.2.1;exact zq9.h.2.2.1;exact zq9.h.2.2.2;done)|(exact zq9.h.1;exact zq9.h.2.1;exact zq9.h.2.2.1;exact zq9.h.2.2.2.1;exact zq9.h.2.2.2.2;done)|(exact zq9.h.1;exact zq9.h.2.1;exact zq9.h.2.2.1;exact zq9.h.2.2.2.1;exact zq9.h.2.2.2.2.1;exact zq9.h.2.2.2.2.2;done))):p:=h zc0 ⟨k⟩
def eM {f:Nat} {fn:Func} {body:Code} {args:List AV} {h0:List (Nat×xN)} {r:AV} {h1:List (Nat×xN)} (able:dS prog f) (h:∀F:Fr (yO h0),F.ro=none/\F.it=false->vK prog F fn.ntmps body ⟨VA 0 args,h0⟩ (Fin TT fn.results.toList h0 r h1)) (hf:prog.funcs[f]? =some fn:=by exact Z) (hb:fn.body=some body:=by exact Z) (hlen:Nat.ble args.length fn.ntmps=true:=by exact Z) (hnd:vJ h0=true:=by exact Z) (hnd1:vJ h1=true:=by exact Z) (hgs:Nat.ble fn.ntmps GS=true:=by rfl):yE prog f args h0 r h1:=eN hf able h hb hlen hnd hnd1 hgs
abbrev zN:=yE prog
def zFB {p:Prop} (h:p:=by(apply uB;(exact zJ);simp only[qN,yAr,yAc,yBg,yBt,yBf,yCg,yC7];omega)):p:=h
def zXO {p:Prop} (h:p:=by(exfalso;omega)):p:=h
def zB {p:Prop} (h:p:=by omega):p:=h
def iA (n:Int):AV:= .s (.int .i64 n)
def yA (n:Int):AV:= .s (.int .u8 n)
def bA (b:Bool):AV:= .s (.bool b)
def zD {α:Type} (f:α->AV) (l:List α):AV:= .sl false (l.map f)
structure Cl where
 ag:Int
 id:Int
 ph:Int
 k:Int
 si:Int
structure Sv where
 ph:Int
 gr:Int
 en:List Int
structure Ph where
 ring:Int
 group:Int
 ming:Int
 maxg:Int
 yel:Int
 red:Int
 walk:Int
 clear:Int
structure Jn where
 ph:List Ph
 cf:List Int
 st:Int
structure Ag where
 sec:List Int
 rights:Int
 cls:Int
 lim:List Int
 req:Int
 ses:Int
 rate:Int
 burst:Int
structure Cf where
 js:List Jn
 ags:List Ag
 per:Int
 cap:Int
 hold:Int
 lock:Int
structure Tk where
 used:Bool
 sec:List Int
 par:Int
 rights:Int
 cls:Int
 til:Int
structure Vh where
 id:Int
 cls:Int
structure Bk where
 level:Int
 rate:Int
 burst:Int
structure Rg where
 num:Int
 ag:Ag
 tk:List Tk
 vh:List Vh
 bk:Bk
structure Ms where
 kind:Int
 tok:List Int
 args:List Int
 data:List Int
def gW (c:Cl):AV:= .agg [iA c.ag,iA c.id,iA c.ph,iA c.k,iA c.si]
def wU (s:Sv):AV:= .agg [iA s.ph,iA s.gr,zD iA s.en]
def wS (p:Ph):AV:= .agg [iA p.ring,iA p.group,iA p.ming,iA p.maxg,iA p.yel,iA p.red,iA p.walk,iA p.clear]
def wJ (j:Jn):AV:= .agg [zD wS j.ph,zD iA j.cf,iA j.st]
def wK (a:Ag):AV:= .agg [zD yA a.sec,iA a.rights,iA a.cls,zD iA a.lim,iA a.req,iA a.ses,iA a.rate,iA a.burst]
def vG (c:Cf):AV:= .agg [zD wJ c.js,zD wK c.ags,iA c.per,iA c.cap,iA c.hold,iA c.lock]
def yV (t:Tk):AV:= .agg [bA t.used,zD yA t.sec,iA t.par,iA t.rights,iA t.cls,iA t.til]
def vZ (v:Vh):AV:= .agg [iA v.id,iA v.cls]
def bkA (b:Bk):AV:= .agg [iA b.level,iA b.rate,iA b.burst]
def uX (r:Rg):AV:= .agg [iA r.num,zD yA r.ag.sec,iA r.ag.rights,iA r.ag.cls,zD iA r.ag.lim,iA r.ag.req,iA r.ag.ses,iA r.ag.rate,iA r.ag.burst,zD yV r.tk,zD vZ r.vh,iA r.bk.level,iA r.bk.rate,iA r.bk.burst]
def yB (m:Ms):AV:= .agg [iA m.kind,zD yA m.tok,zD iA m.args,zD yA m.data]
instance:Inhabited Tk:=⟨⟨false,[],-1,0,0,0⟩⟩
instance:Inhabited Vh:=⟨⟨0,0⟩⟩
instance:Inhabited Cl:=⟨⟨0,0,0,0,0⟩⟩
instance:Inhabited Ph:=⟨⟨0,0,0,0,0,0,0,0⟩⟩
instance:Inhabited Jn:=⟨⟨[],[],0⟩⟩
instance:Inhabited Ag:=⟨⟨[],0,0,[],0,0,0,0⟩⟩
def uB {TT:List TI} {rs:List ResultVar} {h0 h1:List (Nat×xN)} {e:Exit} {st:St} {b b':Bool} (h:Fin TT rs h0 (bA b') h1 e st) (hb:b'=b):Fin TT rs h0 (bA b) h1 e st:=hb▸h
def zM {α:Type} [Inhabited α] (f:α->AV) (l:List α) (i:Nat) (h:i<l.length):(l.map f)[i]? =some (f (l.getD i default)):=by simp[List.getD,h]
def yI {α:Type} [Inhabited α] (f:α->AV) (l:List α) (i:Int) (h0:0<=i) (h:i<l.length):(l.map f)[i.toNat]? =some (f (l.getD i.toNat default)):=zM f l _ (by omega)
def zP2 (v n : Int) (h1 : 1 ≤ n) : -n < v.tmod n ∧ v.tmod n < n ∧ v % n=if v.tmod n<0 then v.tmod n+n else v.tmod n:=by
  have e0:=yEl v (show n≠0 by omega);have e1:=yD2 v (show 0<n by omega)
  have e2 : v.tmod n = if 0 ≤ v ∨ n ∣ v then v % n else v % n - n := by rw[Int.tmod_eq_emod];have:(n.natAbs:Int)=n:=by omega
                                                                        split<;>omega
  rw[e2];split
  · refine⟨by omega,by omega,?_⟩;rw[zZ7 (by omega)]
  · rename_i hd;have:v % n≠0:=λh=>hd (.inr (Int.dvd_of_emod_eq_zero h))
    refine⟨by omega,by omega,?_⟩;rw[zZ8 (by omega)];omega
def zK9 (v n:Int) (h1:1<=n) (h2:n<=1099511627776):yE prog 14 [iA v,iA n] [] (iA (v % n)) []:=by
 obtain⟨b1,b2,e⟩:=zP2 v n h1;by_cases h:v.tmod n<0
 ·rw[e,zZ8 h]
  (refine eM call14 λF hF=>?_)
  (repeat' (first|refine cX ?_|refine xM (λhc=>?_) λhc=>?_|fail))
  exact zJ
 ·rw[e,zZ7 h]
  (refine eM call14 λF hF=>?_)
  (repeat' (first|refine cX ?_|refine xM (λhc=>?_) λhc=>?_|fail))
  exact zJ
structure Dk where
 l:List Int
 a:Nat
 h:a<=l.length
 hl:l.length<=9223372036854775807
def NF (d:Dk):xN:= .box [zD iA d.l,iA d.a]
def nx (d:Dk) (n:Int):Int:=if d.a<d.l.length then d.l.getD d.a 0 % n else 0
def ad (d:Dk):Dk:=if h:d.a<d.l.length then⟨d.l,d.a+1,h,d.hl⟩else d
def xZ (d:Dk) (n:Int) (h1:1<=n):0<=nx d n/\nx d n<n:=by
 unfold nx;split
 ·exact⟨yEl _ (by omega),yD2 _ (by omega)⟩
 ·omega
def zYn (l:List Int) (hl:l.length<=9223372036854775807):yE prog 11 [zD iA l] [] (.ptr 1000 0 0) [(1000,NF ⟨l,0,yAp _,hl⟩)]:=by
 (refine eM call11 λF hF=>?_)
 repeat' (first|refine vW tok Z Z ?_|(first|refine xS ?_|refine xD ?_|refine vI Z ?_|refine zY Z ?_|refine zS Z ?_|refine xL Z (λhc=>?_) λhc=>?_|refine xA ?_|refine yT ?_|refine xF ?_|refine yW ?_)|refine qJ ?_|refine uS (kW (v:= .agg _) 1000 Z Z) Z Z Z ?_)
 exact zL [1000] Z Z Z Z
def wO (d:Dk) (n:Int) (h1:1<=n) (h2:n<=1099511627776):yE prog 15 [.ptr 1000 0 0,iA n] [(1000,NF d)] (iA (nx d n)) [(1000,NF (ad d))]:=by
 have hl:(d.l.map iA).length=d.l.length:=by simp
 have hb:=d.hl;by_cases h:d.a<d.l.length
 ·have hy:=yI iA d.l ((d.a:Int)+1-1) (by omega) (by omega);rw[show nx d n=d.l.getD ((d.a:Int)+1-1).toNat 0 % n by unfold nx;rw[zZ8 h,show((d.a:Int)+1-1).toNat=d.a by omega]];rw[show ad d=⟨d.l,d.a+1,h,d.hl⟩ by unfold ad;rw[dif_pos h]]
  (refine eM call15 λF hF=>?_)
  (repeat' (first|refine cX ?_|refine xM (λhc=>?_) λhc=>?_|(refine zE ?_;refine xT ?_;refine wG (zH (zK9 _ _ h1 h2) Z Z Z Z Z) Z ?_)|fail))
  exact zL [1000] Z Z Z Z
 ·rw[show nx d n=0 by unfold nx;rw[zZ7 h],show ad d=d by unfold ad;rw[dif_neg h]]
  (refine eM call15 λF hF=>?_)
  (repeat' (first|refine cX ?_|refine xM (λhc=>?_) λhc=>?_|(refine zE ?_;refine xT ?_;refine wG (zH (zK9 _ _ h1 h2) Z Z Z Z Z) Z ?_)|fail))
  exact zL [1000] Z Z Z Z
def kV (d:Dk) (lo hi:Int) (h1:0<=lo) (h2:lo<=hi) (h3:hi<=1000000000):yE prog 41 [.ptr 1000 0 0,iA lo,iA hi] [(1000,NF d)] (iA (lo+nx d (hi-lo+1))) [(1000,NF (ad d))]:=by
 have hb:=xZ d (hi-lo+1) (by omega)
 (refine eM call41 λF hF=>?_)
 (repeat' (first|refine cX ?_|refine xM (λhc=>?_) λhc=>?_|(refine zE ?_;refine xT ?_;refine uS (zH (wO d _ (by omega) (by omega)) Z Z Z Z Z) Z Z Z ?_)|fail))
 exact zL [1000] Z Z Z Z
structure Lg where
 jn:Int
 ph:Int
 fr:Int
 to:Int
 sc:Int
structure Rq where
 id:Int
 vh:Int
 cls:Int
 til:Int
 legs:List Lg
instance:Inhabited Lg:=⟨⟨0,0,0,0,0⟩⟩
instance:Inhabited Rq:=⟨⟨0,0,0,0,[]⟩⟩
def xP (l:Lg):AV:= .agg [iA l.jn,iA l.ph,iA l.fr,iA l.to,iA l.sc]
def yG (r:Rq):AV:= .agg [iA r.id,iA r.vh,iA r.cls,iA r.til,zD xP r.legs]
def plB (j p:Int):Bool:=decide (0<=j/\j<4/\0<=p/\p<8)
def mwB (j p f t now:Int):Bool:=decide (0<=j/\j<4/\0<=p/\p<8/\0<=now/\now<=1073741824/\0<=f/\f<=t/\t<=600)
def mwF (j p f t now:Int):Lg:=if mwB j p f t now=true then⟨j,p,now+f,now+t,-1⟩else⟨0,0,0,0,0⟩
def NG (l:Lg):Bool:=decide (0<=l.jn/\l.jn<4/\0<=l.ph/\l.ph<8/\0<=l.fr/\l.fr<=l.to/\l.to<=2147483648/\ -1<=l.sc/\l.sc<=1073741824)
def DE (l:Lg) (now:Int):Bool:=decide (l.fr<=now/\now<=l.to)
def bD (l:Lg) (now:Int):Lg:=if DE l now=true then(if l.sc= -1 then⟨l.jn,l.ph,l.fr,l.to,now⟩else l)else⟨l.jn,l.ph,l.fr,l.to,-1⟩
def zC8 (j p:Int):yE prog 271 [iA j,iA p] [] (bA (plB j p)) []:=by
 (cases hb:plB j p with|false=>((refine eM call271 λF hF=>?_);((refine WW (I4 (λhc hc hc=>?_) (λhc hc hc=>?_) (λhc hc=>?_) λhc=>?_)));all_goals (first|exact zJ|(simp only[plB,yAr]at hb;first|(exfalso;omega)|(apply uB;(exact zJ);simp only[qN,yAr,yAc,yBg,yBt,yBf,yCg,yC7];omega))))|true=>(simp only[plB,yAc]at hb;(refine eM call271 λF hF=>?_);((refine WW ?_));all_goals (first|exact zJ|(exfalso;omega)|(apply uB;(exact zJ);simp only[qN,yAr,yAc,yBg,yBt,yBf,yCg,yC7];omega))))
def zC9 (j p f t now:Int):yE prog 244 [iA j,iA p,iA f,iA t,iA now] [] (.tup [xP (mwF j p f t now),iA (if mwB j p f t now=true then 0 else 8)]) []:=by
 have c1:=zC8 j p;unfold mwF
 cases hb:mwB j p f t now with
 | false=>
  rw[zZ7 yAs,zZ7 yAs];unfold mwB at hb;rw[yAr]at hb;unfold plB at c1;unfold xP;by_cases hp:0<=j/\j<4/\0<=p/\p<8
  ·rw[yAe hp]at c1
   (refine eM call244 λF hF=>?_)
   (have zc1:=c1;refine WW (I5 (λhc=>?_) (λhc hc=>?_) (λhc hc hc=>?_) (λhc hc hc hc=>?_) (λhc hc hc hc=>?_))<;>clear zc1)
   all_goals (first|exact zJ|(exfalso;omega))
  ·rw[yAh hp]at c1
   (refine eM call244 λF hF=>?_)
   (have zc1:=c1;refine WW ?_;clear zc1)
   all_goals (first|exact zJ|(exfalso;omega))
 |true=>
  rw[zZ8 Z,zZ8 Z];unfold mwB at hb;rw[yAc]at hb;unfold plB at c1;rw[yAe (by omega)]at c1;unfold xP
  (refine eM call244 λF hF=>?_)
  (have zc1:=c1;refine WW ?_;clear zc1)
  exact zJ
def zLa (l:Lg) (now:Int):yE prog 122 [xP l,iA now] [] (bA (DE l now)) []:=by
 (cases hb:DE l now with|false=>((refine eM call122 λF hF=>?_);((refine WW (I2 (λhc=>?_) λhc=>?_)));all_goals (first|exact zJ|(simp only[DE,yAr]at hb;first|(exfalso;omega)|(apply uB;(exact zJ);simp only[qN,yAr,yAc,yBg,yBt,yBf,yCg,yC7];omega))))|true=>(simp only[DE,yAc]at hb;(refine eM call122 λF hF=>?_);((refine WW ?_));all_goals (first|exact zJ|(exfalso;omega)|(apply uB;(exact zJ);simp only[qN,yAr,yAc,yBg,yBt,yBf,yCg,yC7];omega))))
def gH (l:Lg) (now:Int):yE prog 172 [xP l,iA now] [] (xP (bD l now)) []:=by
 have c:=zLa l now;unfold bD;generalize DE l now=b at*
 cases b with
 |false=>
  rw[zZ7 yAs];unfold xP at*
  (refine eM call172 λF hF=>?_)
  (have zc1:=c;refine WW ?_;clear zc1)
  exact zJ
 | true=>
  rw[zZ8 Z];by_cases h:l.sc= -1
  ·rw[zZ8 h];unfold xP at*
   (refine eM call172 λF hF=>?_)
   (have zc1:=c;refine WW ?_;clear zc1)
   exact zJ
  ·rw[zZ7 h];unfold xP at*
   (refine eM call172 λF hF=>?_)
   (have zc1:=c;refine WW ?_;clear zc1)
   exact zJ
def zLb (l:Lg):yE prog 300 [xP l] [] (bA (NG l)) []:=by
 have c1:=zC8 l.jn l.ph
 cases hb:NG l with
 | false=>
  unfold NG at hb;rw[yAr]at hb;unfold plB at c1;by_cases hp:0<=l.jn/\l.jn<4/\0<=l.ph/\l.ph<8
  ·rw[yAe hp]at c1
   (refine eM call300 λF hF=>?_)
   (have zc1:=c1;refine WW (I5 (λhc hc hc hc=>?_) (λhc hc hc hc=>?_) (λhc hc hc=>?_) (λhc hc=>?_) λhc=>?_)<;>clear zc1)
   all_goals (first|exact zJ|(exfalso;omega)|(apply uB;(exact zJ);simp only[qN,yAr,yAc,yBg,yBt,yBf,yCg,yC7];omega))
  ·rw[yAh hp]at c1
   (refine eM call300 λF hF=>?_)
   (have zc1:=c1;refine WW ?_;clear zc1)
   all_goals (first|exact zJ|(exfalso;omega)|(apply uB;(exact zJ);simp only[qN,yAr,yAc,yBg,yBt,yBf,yCg,yC7];omega))
 |true=>
  unfold NG at hb;rw[yAc]at hb;unfold plB at c1;rw[yAe (by omega)]at c1
  (refine eM call300 λF hF=>?_)
  (have zc1:=c1;refine WW ?_;clear zc1)
  all_goals (first|exact zJ|(exfalso;omega)|(apply uB;(exact zJ);simp only[qN,yAr,yAc,yBg,yBt,yBf,yCg,yC7];omega))
def jR:List Lg->List Lg->Bool
 |_,[]=>true
 |pre,x::post=>NG x&&(!(pre.any λy=>y.jn==x.jn)&&jR (pre++[x]) post)
def NW (l:List Lg):Bool:=decide (1<=(l.length:Int)/\(l.length:Int)<=3)&&jR [] l
def zP3 {pre post:List Lg} {x:Lg} (h:NG x=false):jR pre (x::post)=false:=by simp[jR,h]
def zDa {pre post:List Lg} {x y:Lg} (hy:y∈pre) (h:y.jn=x.jn):jR pre (x::post)=false:=by
 have:(pre.any λy=>y.jn==x.jn)=true:=yBo.2 ⟨y,hy,by simpa using h⟩;simp[jR,this]
def zEy {pre post:List Lg} {x:Lg} (h:NG x=true) (hn:∀y∈pre,y.jn≠x.jn):jR pre (x::post)=jR (pre++[x]) post:=by
 have:(pre.any λy=>y.jn==x.jn)=false:=by simpa using hn
 simp[jR,h,this]
def zDb (l:List Lg):yE prog 274 [zD xP l] [] (bA (NW l)) []:=by
 have hl:=zA xP l;unfold NW;by_cases h3:1<=(l.length:Int)/\(l.length:Int)<=3
 case neg=>
  rw[yAh h3,yBy];by_cases h1:1<=(l.length:Int)
  ·(refine eM call274 λF hF=>?_)
   (refine WW ?_)
   exact zJ
  ·(refine eM call274 λF hF=>?_)
   (refine WW ?_)
   exact zJ
 rw[yAe h3,yAv];obtain⟨h1,h3⟩:=h3
 (refine eM call274 λF hF=>?_)
 (refine WW ?_)
 (refine qW (l) [] [] [0,15,16] [17,0,15,16] Z (λi pre T U zs=>(∀post,l=pre++post->jR [] l=jR pre post)/\zs=⟨(17,iA i)::T,U⟩) ?_;(conv=>whnf);refine⟨?_,?_,?_⟩)
 ·exact⟨λpost h=>by rw[h];rfl,rfl⟩
 ·rintro i pre x post st hx hi ⟨hp,rfl⟩;have hy:=xI xP hx hi;have hlt:=yN hx hi;rw[hp _ hx];have cv:=zLb x
  have hnext:NG x=true->(∀y∈pre,y.jn≠x.jn)->∀p,l=(pre++[x])++p->jR pre (x::post)=jR (pre++[x]) p:=λa b p h=>by
   have e:p=post:=by rw[hx,yA7]at h;simpa using h.symm
   rw[e];exact zEy a b
  cases hv:NG x with
  |false=>
   rw[zP3 hv];rw[hv]at cv;clear hx hp hnext
   (have zc1:=cv;refine WW ?_;clear zc1)
   exact zJ
  | true=>
   rw[hv]at cv;have ht:l.take i=pre:=by rw[hx,<-hi];simp
   have hl2:(List.map xP (List.take (i:Int).toNat l)).length=(l.take i).length:=zA xP (l.take i);have hl3:(l.take i).length=i:=by rw[ht];exact hi
   (have zc1:=cv;refine WW ?_;clear zc1)
   (refine qW (l.take i) [4] [4] [0,4,15,16,17,27,28] [29,0,4,15,16,17,27,28] Z (λi pre T U zs=>(∀y∈pre,y.jn≠x.jn)/\zs=⟨(29,iA i)::T,U⟩) ?_;(conv=>whnf);refine⟨?_,?_,?_⟩)
   ·exact⟨by simp,rfl⟩
   ·rintro k pr y po st2 hq hk ⟨hp2,rfl⟩;have hy2:=xI xP hq hk;have hlt2:=yN hq hk;by_cases he:y.jn=x.jn
    ·rw[zDa (by rw[<-ht,hq];simp) he];clear hq hx hp hnext
     (refine WW ?_)
     exact zJ
    ·have hp3:∀z∈pr++[y],z.jn≠x.jn:=λz hz=>by
      simp only[yAw,yA8]at hz
      rcases hz with hz|rfl
      ·exact hp2 z hz
      ·exact he
     clear hq hx hp hnext
     (refine WW ?_)
     exact⟨hp3,rfl⟩
   ·rintro st2 ⟨hp2,rfl⟩;have hnx:=hnext hv (by rw[<-ht];exact hp2);clear hx hp hnext
    (refine WW ?_)
    exact⟨hnx,rfl⟩
 ·rintro st ⟨hp,rfl⟩;rw[hp [] zU]
  (refine WW ?_)
  exact zJ
structure RqO (r:Rq):Prop where
 i0:0<=r.id
 i1:r.id<=4294967295
 v0:0<=r.vh
 v1:r.vh<=4294967295
 c0:0<=r.cls
 c1:r.cls<=3
 t0:0<=r.til
 t1:r.til<=2147483648
 lg:NW r.legs=true
structure bJ (l:List Rq):Prop where
 ok:∀r∈l,RqO r
 so:l.Pairwise λa b=>a.id<b.id
 n4:l.length<=4
theorem bJ.lt {l:List Rq} (h:bJ l) {i:Nat} (h0:0<i) (hi:i<l.length):(l.getD (i-1) default).id<(l.getD i default).id:=by
 have:=List.pairwise_iff_getElem.1 h.so (i-1) i (by omega) hi (by omega);simpa [List.getD,hi,show i-1<l.length by omega]using this
def IN {l:List Lg} (h:NW l=true):1<=(l.length:Int)/\(l.length:Int)<=3:=by
 unfold NW at h;rw[yAk]at h;exact yD5 h.1
def PM (n:Int):yE prog 272 [iA n] [] (bA (decide (0<=n/\n<=4294967295))) []:=by
 cases hb:decide (0<=n/\n<=4294967295)with
 |false=>(rw[yAr]at hb;(refine eM call272 λF hF=>?_);((refine WW (I2 (λhc=>?_) λhc=>?_)));all_goals (first|exact zJ|(exfalso;omega)|(apply uB;(exact zJ);simp only[qN,yAr,yAc,yBg,yBt,yBf,yCg,yC7];omega)))
 |true=>(rw[yAc]at hb;(refine eM call272 λF hF=>?_);((refine WW ?_));all_goals (first|exact zJ|(exfalso;omega)|(apply uB;(exact zJ);simp only[qN,yAr,yAc,yBg,yBt,yBf,yCg,yC7];omega)))
def zAq (n:Int):yE prog 273 [iA n] [] (bA (decide (0<=n/\n<=3))) []:=by
 cases hb:decide (0<=n/\n<=3)with
 |false=>(rw[yAr]at hb;(refine eM call273 λF hF=>?_);((refine WW (I2 (λhc=>?_) λhc=>?_)));all_goals (first|exact zJ|(exfalso;omega)|(apply uB;(exact zJ);simp only[qN,yAr,yAc,yBg,yBt,yBf,yCg,yC7];omega)))
 |true=>(rw[yAc]at hb;(refine eM call273 λF hF=>?_);((refine WW ?_));all_goals (first|exact zJ|(exfalso;omega)|(apply uB;(exact zJ);simp only[qN,yAr,yAc,yBg,yBt,yBf,yCg,yC7];omega)))
def zDc (n:Int):yE prog 247 [iA n] [] (bA (decide (0<=n/\n<=1073741824))) []:=by
 cases hb:decide (0<=n/\n<=1073741824)with
 |false=>(rw[yAr]at hb;(refine eM call247 λF hF=>?_);((refine WW (I2 (λhc=>?_) λhc=>?_)));all_goals (first|exact zJ|(exfalso;omega)|(apply uB;(exact zJ);simp only[qN,yAr,yAc,yBg,yBt,yBf,yCg,yC7];omega)))
 |true=>(rw[yAc]at hb;(refine eM call247 λF hF=>?_);((refine WW ?_));all_goals (first|exact zJ|(exfalso;omega)|(apply uB;(exact zJ);simp only[qN,yAr,yAc,yBg,yBt,yBf,yCg,yC7];omega)))
def WN (l:List Rq) (q:Int) (hv:bJ l) (hq:(l.length:Int)<=q):yE prog 246 [zD yG l,iA q] [] (bA true) []:=by
 have hl:=zA yG l;have h4:=hv.n4
 (refine eM call246 λF hF=>?_)
 (refine WW ?_)
 (refine zO (l.length) [] [] [0,16,17] [18,0,16,17] Z (λi T U=>⟨(18,iA i)::T,U⟩) ?_;(conv=>whnf);refine⟨by rfl,?_,?_⟩)
 ·intro i hi;have hy:=zM yG l i hi;have hm:l.getD i default∈l:=by simp[List.getD,hi]
  obtain⟨i0,i1,v0,v1,c0,c1,t0,t1,lg⟩:=hv.ok _ hm;have k1:=PM (l.getD i default).id;have k2:=PM (l.getD i default).vh;have k3:=zAq (l.getD i default).cls;have k4:=zDb (l.getD i default).legs;rw[yAe (by omega)]at k1 k2 k3;rw[lg]at k4;by_cases hi0:0<i
  ·have hyp:=yI yG l ((i:Int)-1) (by omega) (by omega);rw[show((i:Int)-1).toNat=i-1 by omega]at hyp;have hyq:(l.map yG)[((i:Int)-1).toNat]? =some (yG (l.getD (i-1) default)):=by rw[show((i:Int)-1).toNat=i-1 by omega];exact hyp
   have hlt:=hv.lt hi0 hi;clear hyp hm lg;generalize l.getD i default=t at *;generalize l.getD (i-1) default=p at*
   (have zc1:=k1;have zc2:=k2;have zc3:=k3;have zc4:=k4;refine WW ?_;clear zc1 zc2 zc3 zc4)
   rfl
  ·obtain rfl:i=0:=by omega
   clear hm lg;generalize l.getD 0 default=t at*
   (have zc1:=k1;have zc2:=k2;have zc3:=k3;have zc4:=k4;refine WW ?_;clear zc1 zc2 zc3 zc4)
   rfl
 ·(refine WW ?_)
  exact zJ
def IO (n:Int) (i:Nat):Int:=IntKind.u8.wrap (BitVec.ofInt IntKind.u8.bits (IntKind.u8.wrap ((IntKind.u64.wrap n).fdiv (2 ^ (min (8*(i:Int)).toNat IntKind.u64.bits)))) ^^^ BitVec.ofInt IntKind.u8.bits (29*(i:Int)+7)).toNat
def US (n:Int):List Int:=(List.range 8).map (IO n)
def DF (n:Int):yE prog 49 [iA n] [] (zD yA (US n)) []:=by
 have hu:∀i:Nat,((List.range i).map (IO n)).map yA=((List.range i).map (IO n)).map yA:=λ_=>rfl
 (refine eM call49 λF hF=>?_)
 (repeat' (first|refine cX ?_|refine xM (λhc=>?_) λhc=>?_|fail))
 refine yZ 3 1001 1 Z Z Z ?_
 refine wT (λk st=>∃i:Nat,k+i=8/\st=⟨[(0,iA n),(3,.ref 1001 0 (((List.range i).map (IO n)).map yA).length),(5,iA i)],[(1001,.arr 1 (((List.range i).map (IO n)).map yA) true)]⟩)
  8 [1001] [0,3,5] Z ⟨0,rfl,rfl⟩ ?_
 rintro k st ⟨i,hi,rfl⟩;by_cases hlt:i<8
 ·have ht:((List.range (i+1)).map (IO n)).map yA=((List.range i).map (IO n)).map yA++[yA (IO n i)]:=by rw[yCm];simp
  have hs:((List.range i).map (IO n)).length=i:=by simp
  (repeat' (first|refine cX ?_|refine xM (λhc=>?_) λhc=>?_|fail))
  exact⟨k-1,by omega,i+1,by omega,by rw[ht];rfl⟩
 ·obtain rfl:i=8:=by omega
  (repeat' (first|refine cX ?_|refine xM (λhc=>?_) λhc=>?_|fail))
  exact zK [] Z Z (yA6 (AV.sl false) yAf) Z
def ad7 (d:Dk):Dk:=ad (ad (ad (ad (ad (ad (ad d))))))
def agF (d:Dk) (num rights:Int):Ag:=⟨US (1000+num),rights,3,[1+nx d (3-1+1),1+nx (ad d) (3-1+1),nx (ad (ad d)) 3,nx (ad (ad (ad d))) 3],1+nx (ad (ad (ad (ad d)))) (3-1+1),1+nx (ad (ad (ad (ad (ad d))))) (2-1+1),
 1+nx (ad (ad (ad (ad (ad (ad d)))))) (3-1+1),1+nx (ad (ad (ad (ad (ad (ad d)))))) (3-1+1)+nx (ad7 d) 5⟩
def zLc (d:Dk) (num rights:Int) (h0:0<=num) (h1:num<=1000):yE prog 43 [.ptr 1000 0 0,iA num,iA rights] [(1000,NF d)] (wK (agF d num rights)) [(1000,NF (ad (ad7 d)))]:=by
 have hb:=xZ (ad (ad (ad (ad (ad (ad d)))))) (3-1+1) (by omega);have hb2:=xZ (ad7 d) 5 (by omega);have sc:=DF (1000+num);unfold agF ad7 at *;generalize US (1000+num)=sec at*
 (refine eM call43 λF hF=>?_)
 (repeat' (first|refine cX ?_|refine xM (λhc=>?_) λhc=>?_|(refine zE ?_;refine xT ?_;(first|(refine vS 49 ?_;first|refine wG (zH (sc) Z Z Z Z Z) Z ?_|refine uS (zH (sc) Z Z Z Z Z) Z Z Z ?_|refine ZU (zH (sc) Z Z Z Z Z) Z Z Z ?_)|(refine vS 41 ?_;first|refine wG (zH (kV _ _ _ (by omega) (by omega) (by omega)) Z Z Z Z Z) Z ?_|refine uS (zH (kV _ _ _ (by omega) (by omega) (by omega)) Z Z Z Z Z) Z Z Z ?_|refine ZU (zH (kV _ _ _ (by omega) (by omega) (by omega)) Z Z Z Z Z) Z Z Z ?_)|(refine vS 15 ?_;first|refine wG (zH (wO _ _ (by omega) (by omega)) Z Z Z Z Z) Z ?_|refine uS (zH (wO _ _ (by omega) (by omega)) Z Z Z Z Z) Z Z Z ?_|refine ZU (zH (wO _ _ (by omega) (by omega)) Z Z Z Z Z) Z Z Z ?_)))|fail))
 exact zL [1000] Z Z Z Z
def BX (r:Int):Bool:=decide (0<=r/\r<=63)
def aW (r:Int):yE prog 261 [iA r] [] (bA (BX r)) []:=by
 unfold BX
 by_cases h1:0<=r<;>by_cases h2:r<=63<;>simp only[h1,h2,and_true,yF9,decide_true,yGi]<;>first|(exfalso;omega;done)|((refine eM call261 λF hF=>?_);(refine WW ?_);exact zJ)
def zLd:∀a b:_root_.Fin 64,(zV0 a.val b.val==0)=(fH a.val b.val==(a.val:Int)):=by decide +kernel
def wiF (a b:Int):Bool:=BX a&&BX b&&(fH a b==a)
def zP4 (a b:Int):(BX a&&BX b&&(zV0 a b==0))=wiF a b:=by
 unfold wiF
 cases ha:BX a<;>cases hb:BX b<;>simp only[yAv,yBy,yDp,yEj]
 simp only[BX,yAc]at ha hb;have:=zLd ⟨a.toNat,by omega⟩ ⟨b.toNat,by omega⟩;dsimp only at this;rw[show((a.toNat:Nat):Int)=a by omega,show((b.toNat:Nat):Int)=b by omega]at this;exact this
def DG (a b:Int):yE prog 293 [iA a,iA b] [] (bA (wiF a b)) []:=by
 have c1:=aW a;have c2:=aW b;rw[<-zP4]
 cases h1:BX a<;>cases h2:BX b<;>rw[h1]at c1<;>rw[h2]at c2<;>simp only[yAv,yBy,yDp]<;>((refine eM call293 λF hF=>?_);(have zc1:=c1;have zc2:=c2;refine WW ?_;clear zc1 zc2);exact zJ)
def zEz (a b:Int):yP [iA a,iA b] [] (bA (wiF a b)) []:=yD
def ndF (k:Int):Int:=if k=6∨k=7∨k=8 then 1 else if k=4∨k=5 then 2 else if k=2 then 4 else if k=3 then 8 else if k=10 then 16 else if k=11 then 32 else 0
def zE0 (k:Int):(k=6/\ndF k=1)∨(k=7/\ndF k=1)∨(k=8/\ndF k=1)∨(k=4/\ndF k=2)∨(k=5/\ndF k=2)∨(k=2/\ndF k=4)∨(k=3/\ndF k=8)∨(k=10/\ndF k=16)∨(k=11/\ndF k=32)∨
  (k≠6/\k≠7/\k≠8/\k≠4/\k≠5/\k≠2/\k≠3/\k≠10/\k≠11/\ndF k=0):=by
 by_cases h6:k=6
 ·exact(.inl ⟨h6,by subst h6;rfl⟩)
 by_cases h7:k=7
 ·exact .inr ((.inl ⟨h7,by subst h7;rfl⟩))
 by_cases h8:k=8
 ·exact .inr (.inr ((.inl ⟨h8,by subst h8;rfl⟩)))
 by_cases h4:k=4
 ·exact .inr (.inr (.inr ((.inl ⟨h4,by subst h4;rfl⟩))))
 by_cases h5:k=5
 ·exact .inr (.inr (.inr (.inr ((.inl ⟨h5,by subst h5;rfl⟩)))))
 by_cases h2:k=2
 ·exact .inr (.inr (.inr (.inr (.inr ((.inl ⟨h2,by subst h2;rfl⟩))))))
 by_cases h3:k=3
 ·exact .inr (.inr (.inr (.inr (.inr (.inr ((.inl ⟨h3,by subst h3;rfl⟩)))))))
 by_cases h10:k=10
 ·exact .inr (.inr (.inr (.inr (.inr (.inr (.inr ((.inl ⟨h10,by subst h10;rfl⟩))))))))
 by_cases h11:k=11
 ·exact .inr (.inr (.inr (.inr (.inr (.inr (.inr (.inr ((.inl ⟨h11,by subst h11;rfl⟩)))))))))
 exact .inr (.inr (.inr (.inr (.inr (.inr (.inr (.inr (.inr (⟨h6,h7,h8,h4,h5,h2,h3,h10,h11,by simp[ndF,h6,h7,h8,h4,h5,h2,h3,h10,h11]⟩)))))))))
def zLe (k:Int):yE prog 260 [iA k] [] (iA (ndF k)) []:=by
 rcases zE0 k with⟨h,e⟩|⟨h,e⟩|⟨h,e⟩|⟨h,e⟩|⟨h,e⟩|⟨h,e⟩|⟨h,e⟩|⟨h,e⟩|⟨h,e⟩|⟨h1,h2,h3,h4,h5,h6,h7,h8,h9,e⟩<;>rw[e]<;>((refine eM call260 λF hF=>?_);(refine WW ?_);exact zJ)
def peF (r k:Int):Bool:=BX r&&(fH r (ndF k)==ndF k)
def zE1 (r k:Int):yE prog 234 [iA r,iA k] [] (bA (peF r k)) []:=by
 have c1:=aW r;have c2:=zLe k;unfold peF;generalize ndF k=n at*
 cases h1:BX r<;>rw[h1]at c1<;>simp only[yAv,yBy]<;>((refine eM call234 λF hF=>?_);(have zc1:=c1;have zc2:=c2;refine WW ?_;clear zc1 zc2);exact zJ)
def zVt (r b:Int):yE prog 125 [iA r,iA b] [] (bkA ⟨b,r,b⟩) []:=by
 (refine eM call125 λF hF=>?_)
 (refine WW ?_)
 exact zJ
def bvF (b:Bk):Bool:=decide (0<=b.burst/\b.burst<=1000/\0<=b.rate/\b.rate<=b.burst/\0<=b.level/\b.level<=b.burst)
def zLf (b:Bk):yE prog 264 [bkA b] [] (bA (bvF b)) []:=by
 (cases hb:bvF b with|false=>((refine eM call264 λF hF=>?_);((refine WW (I6 (λhc hc hc hc hc=>?_) (λhc hc hc hc hc=>?_) (λhc hc hc hc=>?_) (λhc hc hc=>?_) (λhc hc=>?_) λhc=>?_)));all_goals (first|exact zJ|(simp only[bvF,yAr]at hb;first|(exfalso;omega)|(apply uB;(exact zJ);simp only[qN,yAr,yAc,yBg,yBt,yBf,yCg,yC7];omega))))|true=>(simp only[bvF,yAc]at hb;(refine eM call264 λF hF=>?_);((refine WW ?_));all_goals (first|exact zJ|(exfalso;omega)|(apply uB;(exact zJ);simp only[qN,yAr,yAc,yBg,yBt,yBf,yCg,yC7];omega))))
def btF (b:Bk):Bk:=⟨min (b.level+b.rate) b.burst,b.rate,b.burst⟩
def zP5 (b:Bk) (h: -1000000000<=b.level+b.rate/\b.level+b.rate<=1000000000):yE prog 175 [bkA b] [] (bkA (btF b)) []:=by
 (refine eM call175 λF hF=>?_)
 (refine WW ?_)
 exact zJ
def DH (b:Bk):Bk:=if b.level<=0 then b else⟨b.level-1,b.rate,b.burst⟩
def zP6 (b:Bk) (h:b.level<=9223372036854775807):yE prog 219 [bkA b] [] (.tup [bkA (DH b),bA (decide (0<b.level))]) []:=by
 unfold DH;by_cases h1:b.level<=0
 ·rw[zZ8 h1,yAh (by omega)]
  (refine eM call219 λF hF=>?_)
  (refine WW ?_)
  exact zJ
 ·rw[zZ7 h1,yAe (by omega)]
  (refine eM call219 λF hF=>?_)
  (refine WW ?_)
  exact zJ
def gX (l:List Tk) (s:Int):Bool:=decide (0<=s/\s<l.length)&&(l.getD s.toNat default).used
def zAr (l:List Tk) (s:Int):yE prog 226 [zD yV l,iA s] [] (bA (gX l s)) []:=by
 have hl:=zA yV l;unfold gX;by_cases h1:0<=s
 ·by_cases h2:s<l.length
  ·have hy:=yI yV l s h1 h2;rw[yAe ⟨h1,h2⟩,yAv]
   (refine eM call226 λF hF=>?_)
   (refine WW ?_)
   exact zJ
  ·rw[yAh (by omega),yBy]
   (refine eM call226 λF hF=>?_)
   (refine WW ?_)
   exact zJ
 ·rw[yAh (by omega),yBy]
  (refine eM call226 λF hF=>?_)
  (refine WW ?_)
  exact zJ
def laF (a b:Int):Bool:=decide (b≠0/\(a=0∨b<a))
def zDd (a b:Int):yE prog 294 [iA a,iA b] [] (bA (laF a b)) []:=by
 unfold laF
 by_cases h1:b=0<;>by_cases h2:a=0<;>by_cases h3:b<a<;>simp only[yC7,h1,h2,h3,yEs,yEr,and_true,yF9,true_and,yGj,or_true,true_or,yEy,decide_true,yGi]<;>first|(exfalso;omega;done)|((refine eM call294 λF hF=>?_);(refine WW ?_);exact zJ)
def zLg (a b:Int):yP [iA a,iA b] [] (bA (laF a b)) []:=yD
def exF (t:Tk) (now:Int):Bool:=decide (t.til≠0/\t.til<now)
def LG (t:Tk) (now:Int):yE prog 208 [yV t,iA now] [] (bA (exF t now)) []:=by
 unfold exF
 by_cases h1:t.til=0<;>by_cases h2:t.til<now<;>simp only[yC7,h1,h2,yEs,yEr,and_true,yF9,decide_true,yGi]<;>first|(exfalso;omega;done)|((refine eM call208 λF hF=>?_);(refine WW ?_);exact zJ)
def frT:Tk:=⟨false,[],-1,0,0,0⟩
def zAs:yE prog 162 [] [] (yV frT) []:=by
 (refine eM call162 λF hF=>?_)
 (refine WW ?_)
 exact zJ
def eW {α:Type} (f:α->AV) (l:List α):AV.sl false ((l.map f).take (l.map f).length)=zD f l:=by rw[yAf];rfl
def kN {α:Type} (_:Nat) (l:List α):List α:=l
def WP (l:List Int) (hl:l.length<=1073741824):yE prog 91 [zD iA l] [] (zD iA l) []:=by
 have hll:=zA iA l
 (refine eM call91 λF hF=>?_)
 refine yS 0 Z (λcap hx=>?_) ?_
 ·have:l=[]:=by simpa using hx
  subst this
  (refine WW ?_)
  exact zJ
 ·(refine WW ?_)
  refine zK [] Z Z (eW _ _) Z
def wV (l:List Int) (hl:l.length<=1073741824):yE prog 66 [zD yA l] [] (zD yA l) []:=by
 have hll:=zA yA l
 (refine eM call66 λF hF=>?_)
 refine yS 0 Z (λcap hx=>?_) ?_
 ·have:l=[]:=by simpa using hx
  subst this
  (refine WW ?_)
  exact zJ
 ·(refine WW ?_)
  refine zK [] Z Z (eW _ _) Z
def DI (l:List Vh) (hl:l.length<=1073741824):yE prog 198 [zD vZ l] [] (zD vZ l) []:=by
 have hll:=zA vZ l
 (refine eM call198 λF hF=>?_)
 refine yS 0 Z (λcap hx=>?_) ?_
 ·have:l=[]:=by simpa using hx
  subst this
  (refine WW ?_)
  exact zJ
 ·(refine WW ?_)
  refine zK [] Z Z (eW _ _) Z
def YU (l:List Tk) (hl:l.length<=1073741824):yE prog 197 [zD yV l] [] (.ref 1001 0 (l.map yV).length) [(1001,.arr 6 (l.map yV) false)]:=by
 have hll:=zA yV l
 (refine eM call197 λF hF=>?_)
 refine yS 0 Z (λcap hx=>?_) ?_
 ·have:l=[]:=by simpa using hx
  subst this
  (repeat' (first|refine WZN ?_|((first|apply xM|apply wA)<;>intro hc)|fail))
  refine uH 2 1001 6 Z Z Z (yT ?_);exact zL [1001] Z Z Z Z
 ·repeat' (first|(refine zE ?_;first|refine vW tok Z Z ?_|(refine wL ?_;refine wG (xE tok (.inl ⟨rfl,rfl⟩) Z Z Z Z) Z ?_)|(refine xB ?_;refine uS (nw:=[1001]) (yH tok 1001 (xs:=[]) Z Z Z Z Z Z Z Z Z) Z Z Z ?_)|(refine xC ?_;refine wF tok Z Z Z Z Z Z Z (xO _ _ (λ_=>rfl)) Z Z Z (by omega) Z ?_)|refine qJ ?_)|(first|refine xS ?_|refine xD ?_|refine vI Z ?_|refine zY Z ?_|refine zS Z ?_|refine xL Z (λhc=>?_) λhc=>?_|refine xA ?_|refine yT ?_|refine xF ?_|refine yW ?_))
  exact zL [1001] Z Z Z Z
structure GM (l:List Tk):Prop where
 n:l.length<=1000000
 s:∀t∈l,t.sec.length<=1000000
def qT {α:Type} [Inhabited α] (f:α->AV) (l:List α) (i:Nat) (hi:i<l.length):(kN i (l.map f)).set i (f (l.getD i default))=kN (i+1) (l.map f):=by
 unfold kN;have:=zM f l i hi;rw[yAu]at this;obtain⟨h,e⟩:=this;rw[<-e,yFj]
def YV (l:List Tk) (hb:GM l):yE prog 206 [zD yV l] [] (.ref 1001 0 (l.map yV).length) [(1001,.arr 6 (l.map yV) false)]:=by
 have c:=YU l (by have:=hb.n;omega);have hn:=hb.n;have hll:=zA yV l
 (refine eM call206 λF hF=>?_)
 (have zc1:=c;refine WW ?_;clear zc1)
 (refine zO ((l.map yV).length) [1001] [] [3,8] [9,3,8] Z (λi T U=>⟨(9,iA i)::T,(1001,.arr 6 (kN i (l.map yV)) false)::U⟩) ?_;(conv=>whnf);refine⟨by rfl,?_,?_⟩)
 ·intro i hi;have hi':i<l.length:=by omega
  have hy:(kN i (l.map yV))[i]? =some (yV (l.getD i default)):=zM yV l i hi';have e:=qT yV l i hi';have c2:=wV (l.getD i default).sec (by have:=hb.s (l.getD i default) bE;omega);generalize (l.getD i default)=t at *;generalize kN i (l.map yV)=xs at *;generalize kN (i+1) (l.map yV)=ys at *;subst e
  (have zc1:=c2;refine WW ?_;clear zc1)
  rfl
 ·(refine WW ?_)
  exact zL [1001] Z Z Z Z
def DJ (a:Ag) (h1:a.sec.length<=1000000) (h2:a.lim.length<=1000000):yE prog 123 [wK a] [] (wK a) []:=by
 have c1:=wV a.sec (by omega);have c2:=WP a.lim (by omega)
 (refine eM call123 λF hF=>?_)
 (have zc1:=c1;have zc2:=c2;refine WW ?_;clear zc1 zc2)
 exact zJ
structure DK (r:Rg):Prop where
 tk:GM r.tk
 s:r.ag.sec.length<=1000000
 l:r.ag.lim.length<=1000000
 v:r.vh.length<=1000000
def rgX (r:Rg) (xs:List AV):AV:= .agg [iA r.num,zD yA r.ag.sec,iA r.ag.rights,iA r.ag.cls,zD iA r.ag.lim,iA r.ag.req,iA r.ag.ses,iA r.ag.rate,iA r.ag.burst,.sl false xs,zD vZ r.vh,iA r.bk.level,iA r.bk.rate,iA r.bk.burst]
def fU (r:Rg) (hb:DK r):yE prog 173 [uX r] [] (uX r) []:=by
 have c1:=DJ r.ag hb.s hb.l;have hn:=hb.tk.n;have hv:=hb.v;have c2:=YU r.tk (by omega);have c3:=DI r.vh (by omega);have hll:=zA yV r.tk
 (refine eM call173 λF hF=>?_)
 (have zc1:=c1;have zc2:=c2;refine WW ?_;clear zc1 zc2)
 (refine zO ((r.tk.map yV).length) [1001,1,2] [1,2] [1,2,14] [15,1,2,14] Z (λi T U=>⟨(15,iA i)::T,(1001,.arr 6 (kN i (r.tk.map yV)) false)::U⟩) ?_;(conv=>whnf);refine⟨by rfl,?_,?_⟩)
 ·intro i hi;have hi':i<r.tk.length:=by omega
  have hy:(kN i (r.tk.map yV))[i]? =some (yV (r.tk.getD i default)):=zM yV r.tk i hi';have e:=qT yV r.tk i hi';have c2:=wV (r.tk.getD i default).sec (by have:=hb.tk.s (r.tk.getD i default) bE;omega);generalize (r.tk.getD i default)=t at *;generalize kN i (r.tk.map yV)=xs at *;generalize kN (i+1) (r.tk.map yV)=ys at *;subst e
  (have zc1:=c2;refine WW ?_;clear zc1)
  rfl
 ·(have zc1:=c3;refine WW ?_;clear zc1)
  exact zK [] Z Z (yA6 (rgX r) yAf) Z
theorem bJ.lg3 {l:List Rq} (h:bJ l) {r:Rq} (hr:r∈l):1<=r.legs.length/\r.legs.length<=3:=by
 have:=IN (h.ok r hr).lg;omega
theorem bJ.filter {l:List Rq} (h:bJ l) (p:Rq->Bool):bJ (l.filter p):=
 ⟨λr hr=>h.ok r (yC5.1 hr).1,h.so.filter p,yBm (yCl _ _) h.n4⟩
def dP (l:List Lg) (hl:l.length<=1000):yE prog 167 [zD xP l] [] (zD xP l) []:=by
 have hll:=zA xP l
 (refine eM call167 λF hF=>?_)
 refine yS 0 Z (λcap hx=>?_) ?_
 ·have:l=[]:=by simpa using hx
  subst this
  (refine WW ?_)
  exact zJ
 ·(refine WW ?_)
  refine zK [] Z Z (eW _ _) Z
def WQ (r:Rq) (hl:r.legs.length<=1000):yE prog 209 [yG r] [] (yG r) []:=by
 have c:=dP r.legs hl;have hll:=zA xP r.legs
 (refine eM call209 λF hF=>?_)
 (have zc1:=c;refine WW ?_;clear zc1)
 exact zJ
def DL (p:Rq->Bool) (pre:List Rq) (x:Rq):((pre++[x]).filter p).map yG=(pre.filter p).map yG++(if p x=true then [x]else []).map yG:=by
 rw[yDc,yAi]
 congr 2
 cases h:p x<;>simp[h]
def zAt (fn:Nat) (v:Int) (p:Rq->Bool) (l:List Rq) (hn:l.length<=1000) (hb:∀r∈l,r.legs.length<=1000) (c:∀x,yE prog fn [yG x,.ptr 3 0 0] [(3,.box [iA v])] (bA (p x)) [(3,.box [iA v])]):
  yE prog 176 [zD yG l,.fn fn [.ptr 3 0 0]] [(3,.box [iA v])] (zD yG (l.filter p)) [(3,.box [iA v])]:=by
 have hl:=zA yG l
 (refine eM call176 λF hF=>?_)
 (refine WW ?_)
 refine yZ 5 1001 5 Z Z Z ?_
 (refine yL (l) [1001,3] [3] [1,8,9] [5,10,1,8,9] Z (λi pre T U=>⟨(5,.ref 1001 0 ((pre.filter p).map yG).length)::(10,iA i)::T,(1001,.arr 5 ((pre.filter p).map yG) true)::U⟩) ?_;(conv=>whnf);refine⟨by rfl,?_,?_⟩)
 ·intro i pre x post hx hi;have hy:=xI yG hx hi;have hlt:=yN hx hi;have hle:(pre.filter p).length<=i:=by rw[<-hi];exact yCl _ _
  have hlm:=zA yG (pre.filter p);have c1:=c x;have c2:=WQ x (hb x (wR hx));have e:=DL p pre x;rw[e];clear hx e;generalize (pre.filter p).map yG=R at*
  cases h:p x with
  |false=>
   rw[h]at c1;rw[zZ7 yAs]
   (have zc1:=c1;refine WW ?_;clear zc1)
   rw[yCz,yBc];rfl
  |true=>
   rw[h]at c1;rw[zZ8 Z]
   (have zc1:=c1;have zc2:=c2;refine WW ?_;clear zc1 zc2)
   rfl
 ·(refine WW ?_)
  exact zL [3] Z Z (eW _ _) Z
end Av
end Go.Proofs.YteajjdidebfcjaaGreat
