/- Part 12. -/
import Derived.Test.YtmamjhmoegjapaaGreatP07
import Derived.Test.YtmamjhmoegjapaaGreatP09
import Derived.Test.YtmamjhmoegjapaaGreatP11
namespace Go.Proofs.YtmamjhmoegjapaaGreat
namespace Av
open Tryz
set_option linter.unusedSimpArgs false
set_option linter.unusedVariables false
set_option linter.unusedSectionVars false
set_option maxRecDepth 4000
set_option maxHeartbeats 4000000
structure bE (q:Prop):Prop where
 h:q
structure FzD (n:Nat) (K ts:List Nat):Prop where
theorem I2 {a b:Prop} (x:a) (y:b):a/\b:=⟨x,y⟩
theorem I3 {a b c:Prop} (x:a) (y:b) (z:c):a/\b/\c:=⟨x,y,z⟩
theorem I4 {a b c d:Prop} (x:a) (y:b) (z:c) (u:d):a/\b/\c/\d:=⟨x,y,z,u⟩
theorem I5 {a b c d e:Prop} (x:a) (y:b) (z:c) (u:d) (v:e):a/\b/\c/\d/\e:=⟨x,y,z,u,v⟩
theorem I6 {a b c d e f:Prop} (x:a) (y:b) (z:c) (u:d) (v:e) (w:f):a/\b/\c/\d/\e/\f:=⟨x,y,z,u,v,w⟩
section
variable {P:Program} {K0:List Nat} {F:Fr K0} {m:Nat} {ops:Array Oper} {rest:List Oper} {Q:List FP->St->Prop} {dr:Bool} {fs:List FP} {ty t:Nat} {pos:String} {after:Array Edge} {st:St}
theorem WF {n:Nat} {az0:List AV} {h0:List (Nat×xN)} {r:AV} {h1:List (Nat×xN)} (_:xP P n az0 h0 r h1) {az:Array Operand} {ts:Array Nat} (hk:yC P F m ops dr (⟨some t,.call ⟨.value (.func n),az,ts⟩,ty,pos,after,none⟩::rest) st fs Q):yC P F m ops dr (⟨some t,.call ⟨.value (.func n),az,ts⟩,ty,pos,after,none⟩::rest) st fs Q:=hk
theorem zAl {n:Nat} {K ts:List Nat} (_:FzD n K ts) {az:Array Operand} {tz:Array Nat} (hk:yC P F m ops dr (⟨some t,.call ⟨.value (.func n),az,tz⟩,ty,pos,after,none⟩::rest) st fs Q):yC P F m ops dr (⟨some t,.call ⟨.value (.func n),az,tz⟩,ty,pos,after,none⟩::rest) st fs Q:=hk
theorem OC {tm:List (Nat×AV)} {h:List (Nat×xN)} {Q:List FP->St->Prop} {n:Nat} {K ts:List Nat} (_:FzD n K ts) (hK:K0.all (K.contains ·)=true) (h1:fV K (zC h) tm ts λT=>fN K (zC h) K λU=>yC P F m ops false rest ⟨T,U⟩ fs Q):yC P F m ops false rest ⟨tm,h⟩ fs Q:=jG K ts hK h1
end
theorem CC {p q:Prop} (k:q) (h:bE q->p:=by(intro zq9;(((first|refine WF zc ?_|refine ZP ?_);first|refine xI (zH (zc) rfl rfl rfl rfl rfl) rfl ?_|refine uN (zH (zc) rfl rfl rfl rfl rfl) rfl rfl rfl ?_|refine aN (zH (zc) rfl rfl rfl rfl rfl) rfl rfl rfl ?_|refine xI (wG (zc) rfl rfl rfl rfl rfl) rfl ?_|refine uN (wG (zc) rfl rfl rfl rfl rfl) rfl rfl rfl ?_));exact zq9.h)):p:=h ⟨k⟩
theorem PT {p q:Prop} (k:q) (h:bE q->p:=by(intro zq9;(first|refine vN tok rfl rfl ?_|(refine WM ?_;first|refine zUi rfl rfl ?_|refine zKq rfl rfl rfl rfl ?_)|(refine wW ?_;first|refine xI (TK rfl rfl rfl (by unfold IP;omega)) rfl ?_|refine xI (TL rfl rfl rfl (by unfold IP;omega)) rfl ?_|refine xI (IQ rfl rfl rfl) rfl ?_|refine xI (HF rfl rfl ⟨by omega,by omega⟩) rfl ?_|refine xI (HG rfl rfl ⟨by omega,by omega⟩) rfl ?_|refine xI (HI rfl rfl ⟨by omega,by omega⟩) rfl ?_|refine xI (HJ rfl rfl (by assumption) (by omega)) rfl ?_|refine xI (HL rfl rfl (by omega)) rfl ?_|refine xI (HN rfl rfl) rfl ?_|refine xI (zK3 rfl rfl (by omega)) rfl ?_|refine xI (zK4 rfl rfl (by omega)) rfl ?_|refine xI (jS (.inl ⟨rfl,rfl⟩) rfl rfl (by omega)) rfl ?_|refine xI (jS (.inr ⟨rfl,rfl⟩) rfl rfl (by omega)) rfl ?_|refine xI (eV tok rfl rfl rfl rfl (.inl ⟨rfl,rfl⟩)) rfl ?_|refine xI (eV tok rfl rfl rfl rfl (.inr ⟨rfl,rfl⟩)) rfl ?_|refine xI (WQ tok (.inl ⟨rfl,rfl⟩) rfl rfl rfl) rfl ?_|refine xI (yX tok (.inl ⟨rfl,rfl⟩) rfl rfl rfl rfl) rfl ?_|refine xI (zK1 rfl rfl) rfl ?_|refine xI (zPn rfl rfl) rfl ?_|refine xI (zK2 rfl rfl) rfl ?_|refine xI (zAy rfl rfl (by assumption)) rfl ?_|refine xI (LZ rfl rfl) rfl ?_|refine xI (zAz rfl rfl (by assumption)) rfl ?_|refine xI (KA rfl rfl) rfl ?_)|(refine zAo ?_;first|refine xI (gP tok rfl rfl rfl rfl rfl (by omega) cH rfl rfl) rfl ?_|refine xI (gK tok rfl rfl rfl rfl rfl rfl (by omega) (by omega) rfl) rfl ?_|refine xI (hG tok rfl rfl rfl rfl rfl rfl (by omega) (by omega)) rfl ?_)|(refine IV ?_;first|refine xI (bP tok rfl rfl rfl cH rfl) rfl ?_|refine xI (bO tok rfl rfl rfl cH rfl) rfl ?_|refine xI (cF tok rfl rfl rfl rfl cH rfl) rfl ?_|refine xI (cE tok rfl rfl rfl rfl cH rfl) rfl ?_)|(refine zAp ?_;first|refine xI (jZ tok rfl rfl rfl rfl rfl rfl rfl rfl) rfl ?_|refine xI (gO tok rfl cH rfl rfl rfl rfl rfl rfl) rfl ?_)|(refine yV ?_;first|refine wO tok rfl rfl rfl rfl rfl rfl rfl (by first|(intro y hy;cases hy;rfl)|exact xT _ _ (λ_=>rfl)) rfl rfl rfl (by first|omega|(simp;done)|(simp;omega)) rfl ?_|refine qE tok rfl rfl rfl rfl rfl rfl rfl rfl rfl rfl rfl (by first|(intro y hy;cases hy;rfl)|exact xT _ _ (λ_=>rfl)) (by first|omega|(simp;done)|(simp;omega)) rfl ?_)|(refine OI ?_;first|refine xI (HU rfl ⟨by omega,by omega⟩) rfl ?_)|(refine IR ?_;first|refine xI (ZI tok rfl rfl rfl rfl ⟨by omega,by omega⟩) rfl ?_|refine xI (UG tok rfl rfl rfl rfl) rfl ?_|refine xI (CP tok rfl rfl rfl rfl rfl rfl rfl cH) rfl ?_)|(refine jN ?_;first|refine HW tok rfl rfl rfl rfl rfl (by first|(intro y hy;cases hy;rfl)|exact xT _ _ (λ_=>rfl)|assumption|(simp;done)) (by omega) wQ (by first|exact yBs.symm|rfl) rfl ?_|refine zUm tok rfl rfl rfl rfl rfl (by first|(intro y hy;cases hy;rfl)|exact xT _ _ (λ_=>rfl)|assumption|(simp;done)) (by omega) wQ (by first|exact yBt.symm|rfl) rfl ?_|refine zPo tok rfl rfl rfl rfl rfl rfl (by first|(intro y hy;cases hy;rfl)|exact xT _ _ (λ_=>rfl)|assumption|(simp;done)) (by omega) (by omega) (by first|omega|(simp;omega)) (by first|assumption|rfl) rfl ?_));exact zq9.h)):p:=h ⟨k⟩
theorem SB {p q:Prop} (k:q) (h:bE q->p:=by(intro zq9;refine zE ?_;(first|(refine zA1 ?_;refine xI (gQ rfl rfl rfl) rfl ?_)|refine YH tok rfl rfl rfl rfl ?_|(refine bR ?_;first|refine zA8 tok rfl rfl rfl rfl rfl rfl ?_|refine bQ tok rfl rfl rfl ?_|refine zUr tok rfl rfl rfl cH rfl rfl rfl rfl rfl rfl ?_|refine zA2 tok rfl rfl rfl cH rfl rfl rfl rfl rfl rfl rfl rfl ?_)|refine qF ?_|refine TO gS ?_);exact zq9.h)):p:=h ⟨k⟩
theorem SC {p q:Prop} (k:q) (h:bE q->p:=by(intro zq9;((first|(refine zAl zf1 ?_;refine OC zf1 rfl ?_;(conv=>whnf);(try simp only[zY2,zX7]))|(refine zAl zf2 ?_;refine OC zf2 rfl ?_;(conv=>whnf);(try simp only[zY2,zX7]))|(refine zAl zf3 ?_;refine OC zf3 rfl ?_;(conv=>whnf);(try simp only[zY2,zX7]))|skip);first|(have zc:=zc1;refine CC ?_;clear zc)|(have zc:=zc2;refine CC ?_;clear zc)|(have zc:=zc3;refine CC ?_;clear zc)|(have zc:=zc4;refine CC ?_;clear zc)|(have zc:=zc5;refine CC ?_;clear zc)|(have zc:=zc6;refine CC ?_;clear zc)|(have zc:=zc7;refine CC ?_;clear zc)|(have zc:=zc8;refine CC ?_;clear zc)|(have zc:=zc9;refine CC ?_;clear zc)|(have zc:=zc10;refine CC ?_;clear zc)|(have zc:=zc11;refine CC ?_;clear zc)|(have zc:=zc12;refine CC ?_;clear zc)|(have zc:=zc13;refine CC ?_;clear zc)|(have zc:=zc14;refine CC ?_;clear zc)|(have zc:=zc15;refine CC ?_;clear zc)|(have zc:=zc16;refine CC ?_;clear zc)|fail);exact zq9.h)):p:=h ⟨k⟩
theorem WZ {p q:Prop} (k:q) (h:bE q->p:=by(intro zq9;(repeat1' (first|(refine zE ?_;first|refine PT ?_|(refine wD ?_;refine SC ?_)|refine SB ?_)|refine xS ?_|refine xD ?_|refine yY ?_|refine xE ?_));exact zq9.h)):p:=h ⟨k⟩
theorem WS {p q:Prop} (k:q) (h:bE q->p:=by(intro zq9;(repeat1' (first|(refine zE ?_;first|refine PT ?_|(refine wD ?_;refine SC ?_)|refine SB ?_)));exact zq9.h)):p:=h ⟨k⟩
theorem WV {p q:Prop} (k:q) (h:bE q->p:=by(intro zq9;(repeat1' (first|(refine zE ?_;first|refine PT ?_|(refine wD ?_;refine SC ?_)|((fail_if_success refine yS ?_);refine SB ?_))));exact zq9.h)):p:=h ⟨k⟩
theorem WY {p q:Prop} (k:q) (h:bE q->p:=by(intro zq9;(repeat1' (first|(refine zE ?_;first|refine PT ?_|(refine wD ?_;refine SC ?_)|((fail_if_success refine yS ?_);refine SB ?_))|refine xS ?_|refine xD ?_|refine yY ?_|refine xE ?_));exact zq9.h)):p:=h ⟨k⟩
theorem WT {p q:Prop} (k:q) (h:bE q->p:=by(intro zq9;(repeat1' (first|(refine zE ?_;first|refine PT ?_|(refine wD ?_;refine SC ?_)|((fail_if_success refine bR ?_);refine SB ?_))|refine xS ?_|refine xD ?_|refine yY ?_|refine xE ?_));exact zq9.h)):p:=h ⟨k⟩
theorem SG {p q:Prop} (k:q) (h:bE q->p:=by(intro zq9;refine zE ?_;refine WM ?_;((refine cX rfl rfl (λzh9=>?_) (λzh9=>?_))<;>(try simp only[kE,zX9,zYn,zZg,yAf,yBj,yAs,zY9,zZr,yC5,yC4,yBu]at zh9));(all_goals (repeat revert zh9));first|done|(exact zq9.h;done)|(exact zq9.h.1;exact zq9.h.2;done)|(exact zq9.h.1;exact zq9.h.2.1;exact zq9.h.2.2;done)|(exact zq9.h.1;exact zq9.h.2.1;exact zq9.h.2.2.1;exact zq9.h.2.2.2;done)|(exact zq9.h.1;exact zq9.h.2.1;exact zq9.h.2.2.1;exact zq9.h.2.2.2.1;exact zq9.h.2.2.2.2;done)|(exact zq9.h.1;exact zq9.h.2.1;exact zq9.h.2.2.1;exact zq9.h.2.2.2.1;exact zq9.h.2.2.2.2.1;exact zq9.h.2.2.2.2.2;done))):p:=h ⟨k⟩
theorem SK {p q:Prop} (k:q) (h:bE q->p:=by(intro zq9;((refine xK rfl (λzh9=>?_) (λzh9=>?_))<;>(try simp only[kE,zX9,zYn,zZg,yAf,yBj,yAs,zY9,zZr,yC5,yC4,yBu]at zh9));(all_goals (repeat revert zh9));first|done|(exact zq9.h;done)|(exact zq9.h.1;exact zq9.h.2;done)|(exact zq9.h.1;exact zq9.h.2.1;exact zq9.h.2.2;done)|(exact zq9.h.1;exact zq9.h.2.1;exact zq9.h.2.2.1;exact zq9.h.2.2.2;done)|(exact zq9.h.1;exact zq9.h.2.1;exact zq9.h.2.2.1;exact zq9.h.2.2.2.1;exact zq9.h.2.2.2.2;done)|(exact zq9.h.1;exact zq9.h.2.1;exact zq9.h.2.2.1;exact zq9.h.2.2.2.1;exact zq9.h.2.2.2.2.1;exact zq9.h.2.2.2.2.2;done))):p:=h ⟨k⟩
theorem SM {p q:Prop} (k:q) (h:bE q->p:=by(intro zq9;((refine gU ?_;refine zCp tok rfl rfl rfl rfl rfl rfl rfl rfl rfl rfl rfl rfl rfl (by omega) (by omega) rfl rfl rfl ?_));exact zq9.h)):p:=h ⟨k⟩
theorem SL {p q:Prop} (k:q) (h:bE q->p:=by(intro zq9;(first|(refine yS ?_;refine qR tok rfl rfl ?_)|(refine yV ?_;refine KD tok rfl rfl rfl rfl rfl rfl (by first|(intro y hy;cases hy;rfl)|exact xT _ _ (λ_=>rfl)) rfl rfl rfl (by first|omega|(simp;done)|(simp;omega)) rfl ?_));exact zq9.h)):p:=h ⟨k⟩
theorem SE {p q:Prop} (k:q) (h:bE q->p:=by(intro zq9;((refine wW ?_;first|refine xI (YM (ms:=[_,_]) (ns:=[_,_]) tok rfl rfl rfl rfl rfl rfl rfl gS gS gS (.inl ⟨rfl,rfl⟩)) rfl ?_|refine xI (YM (ms:=[_,_]) (ns:=[_,_]) tok rfl rfl rfl rfl rfl rfl rfl gS gS gS (.inr ⟨rfl,rfl⟩)) rfl ?_|refine xI (YM (ms:=[_,_,_]) (ns:=[_,_,_]) tok rfl rfl rfl rfl rfl rfl rfl gS gS gS (.inl ⟨rfl,rfl⟩)) rfl ?_|refine xI (YM (ms:=[_,_,_]) (ns:=[_,_,_]) tok rfl rfl rfl rfl rfl rfl rfl gS gS gS (.inr ⟨rfl,rfl⟩)) rfl ?_));exact zq9.h)):p:=h ⟨k⟩
theorem SF {p q:Prop} (k:q) (h:bE q->p:=by(intro zq9;((refine wW ?_;first|refine xI (YM (ms:=[_,_,_,_,_]) (ns:=[_,_,_,_,_]) tok rfl rfl rfl rfl rfl rfl rfl gS gS gS (.inl ⟨rfl,rfl⟩)) rfl ?_|refine xI (YM (ms:=[_,_,_,_,_]) (ns:=[_,_,_,_,_]) tok rfl rfl rfl rfl rfl rfl rfl gS gS gS (.inr ⟨rfl,rfl⟩)) rfl ?_));exact zq9.h)):p:=h ⟨k⟩
theorem SR {p q:Prop} (k:q) (h:bE q->p:=by(intro zq9;(first|refine xS ?_|refine xD ?_|refine vD rfl ?_|refine zX rfl ?_|refine zQ rfl ?_|refine yY ?_|refine yU ?_|refine xE ?_|refine yT ?_);exact zq9.h)):p:=h ⟨k⟩
theorem SX {p q:Prop} (k:q) (h:bE q->p:=by(intro zq9;(first|refine xS ?_|refine xD ?_|refine zX rfl ?_|refine zQ rfl ?_|refine yY ?_|refine yU ?_|refine xE ?_);exact zq9.h)):p:=h ⟨k⟩
theorem SN {p q:Prop} (k:q) (h:bE q->p:=by(intro zq9;(first|refine xS ?_|refine xD ?_|refine vD rfl ?_|refine zX rfl ?_|refine zQ rfl ?_|refine yY ?_|refine xE ?_|refine yT ?_);exact zq9.h)):p:=h ⟨k⟩
theorem SQ {p q:Prop} (k:q) (h:bE q->p:=by(intro zq9;(first|refine xS ?_|refine xD ?_|refine vD rfl ?_|refine yY ?_|refine yU ?_|refine xE ?_);exact zq9.h)):p:=h ⟨k⟩
theorem SV {p q:Prop} (k:q) (h:bE q->p:=by(intro zq9;(first|refine xS ?_|refine xD ?_|refine vD rfl ?_|refine zX rfl ?_|refine zQ rfl ?_|refine yY ?_|refine yU ?_|refine xE ?_);exact zq9.h)):p:=h ⟨k⟩
structure One (a:Prop):Prop where
 x:a
structure Two (a b:Prop):Prop where
 x:a
 y:b
theorem wB {a:Prop} (x:a):One a:=⟨x⟩
theorem xO {a b:Prop} (x:a) (y:b):Two a b:=⟨x,y⟩
theorem YG {p a b:Prop} (k:Two a b) (h:a->b->p:=by(intro zx8 zy8;refine zE ?_;refine WM ?_;((refine cX rfl rfl (λzh9=>?_) (λzh9=>?_))<;>(try simp only[kE,zX9,zYn,zZg,yAf,yBj,yAs,zY9,zZr,yC5,yC4,yBu]at zh9));(all_goals (repeat revert zh9));exact zx8;exact zy8)):p:=h k.x k.y
theorem YG1 {p a:Prop} (k:One a) (h:a->p:=by(intro zx8;refine zE ?_;refine WM ?_;((refine cX rfl rfl (λzh9=>?_) (λzh9=>?_))<;>(try simp only[kE,zX9,zYn,zZg,yAf,yBj,yAs,zY9,zZr,yC5,yC4,yBu]at zh9));(all_goals (repeat revert zh9));exact zx8)):p:=h k.x
theorem YK {p a b:Prop} (k:Two a b) (h:a->b->p:=by(intro zx8 zy8;((refine xK rfl (λzh9=>?_) (λzh9=>?_))<;>(try simp only[kE,zX9,zYn,zZg,yAf,yBj,yAs,zY9,zZr,yC5,yC4,yBu]at zh9));(all_goals (repeat revert zh9));exact zx8;exact zy8)):p:=h k.x k.y
theorem YK1 {p a:Prop} (k:One a) (h:a->p:=by(intro zx8;((refine xK rfl (λzh9=>?_) (λzh9=>?_))<;>(try simp only[kE,zX9,zYn,zZg,yAf,yBj,yAs,zY9,zZr,yC5,yC4,yBu]at zh9));(all_goals (repeat revert zh9));exact zx8)):p:=h k.x
theorem YG0 {p a b:Prop} (k:Two a b) (h:a->b->p:=by(intro zx8 zy8;refine zE ?_;refine WM ?_;refine cX rfl rfl (λzh9=>?_) (λzh9=>?_);(all_goals (repeat revert zh9));exact zx8;exact zy8)):p:=h k.x k.y
theorem YK0 {p a b:Prop} (k:Two a b) (h:a->b->p:=by(intro zx8 zy8;refine xK rfl (λzh9=>?_) (λzh9=>?_);(all_goals (repeat revert zh9));exact zx8;exact zy8)):p:=h k.x k.y
theorem qB {p q:Prop} (k:q) (h:bE q->p:=by(intro zq9;(first|refine WZ ?_|refine YG ?_|refine YG1 ?_|refine SR ?_|refine YK ?_|refine YK1 ?_);exact zq9.h)):p:=h ⟨k⟩
theorem WZX {p q:Prop} (k:q) (h:bE q->p:=by(intro zq9;(first|refine WZ ?_|refine YG ?_|refine YG1 ?_|refine SX ?_);exact zq9.h)):p:=h ⟨k⟩
theorem WZN {p q:Prop} (k:q) (h:bE q->p:=by(intro zq9;(first|refine WZ ?_|refine YG ?_|refine YG1 ?_|refine SN ?_|refine YK ?_|refine YK1 ?_);exact zq9.h)):p:=h ⟨k⟩
theorem WZB {p q:Prop} (k:q) (h:bE q->p:=by(intro zq9;(first|refine WZ ?_|refine YG ?_|refine YG1 ?_|refine SQ ?_);exact zq9.h)):p:=h ⟨k⟩
theorem WZC {p q:Prop} (k:q) (h:bE q->p:=by(intro zq9;(first|refine WZ ?_|refine YG ?_|refine YG1 ?_|refine SV ?_|refine YK ?_|refine YK1 ?_);exact zq9.h)):p:=h ⟨k⟩
theorem aL {p q:Prop} (k:q) (h:bE q->p:=by(intro zq9;(first|refine WY ?_|refine YG ?_|refine YG1 ?_|refine SR ?_|refine YK ?_|refine YK1 ?_);exact zq9.h)):p:=h ⟨k⟩
theorem WYX {p q:Prop} (k:q) (h:bE q->p:=by(intro zq9;(first|refine WY ?_|refine YG ?_|refine YG1 ?_|refine SX ?_);exact zq9.h)):p:=h ⟨k⟩
theorem WTR {p q:Prop} (k:q) (h:bE q->p:=by(intro zq9;(first|refine WT ?_|refine YG ?_|refine YG1 ?_|refine SR ?_|refine YK ?_|refine YK1 ?_);exact zq9.h)):p:=h ⟨k⟩
theorem YF {p q:Prop} (k:q) (h:bE q->p:=by(intro zq9;(first|refine WZ ?_|refine YG0 ?_|refine SR ?_|refine YK0 ?_);exact zq9.h)):p:=h ⟨k⟩
theorem WW {p q:Prop} (k:q) (h:bE q->p:=by(intro zq9;(repeat' (first|refine WZ ?_|refine SG (I2 (λzh8=>?_) (λzh8=>?_))|refine SG (λzh8=>?_)|(refine zE ?_;refine SM ?_)|refine SR ?_|refine SK (I2 (λzh8=>?_) (λzh8=>?_))|refine SK (λzh8=>?_)|fail));(all_goals (repeat revert zh8));first|done|(exact zq9.h;done)|(exact zq9.h.1;exact zq9.h.2;done)|(exact zq9.h.1;exact zq9.h.2.1;exact zq9.h.2.2;done)|(exact zq9.h.1;exact zq9.h.2.1;exact zq9.h.2.2.1;exact zq9.h.2.2.2;done)|(exact zq9.h.1;exact zq9.h.2.1;exact zq9.h.2.2.1;exact zq9.h.2.2.2.1;exact zq9.h.2.2.2.2;done)|(exact zq9.h.1;exact zq9.h.2.1;exact zq9.h.2.2.1;exact zq9.h.2.2.2.1;exact zq9.h.2.2.2.2.1;exact zq9.h.2.2.2.2.2;done))):p:=h ⟨k⟩
theorem WL {p q:Prop} (k:q) (h:bE q->p:=by(intro zq9;(repeat' (first|refine WY ?_|refine SG (I2 (λzh8=>?_) (λzh8=>?_))|refine SG (λzh8=>?_)|(refine zE ?_;first|refine SL ?_|refine SM ?_)|refine SB ?_|refine SR ?_|refine SK (I2 (λzh8=>?_) (λzh8=>?_))|refine SK (λzh8=>?_)|fail));(all_goals (repeat revert zh8));first|done|(exact zq9.h;done)|(exact zq9.h.1;exact zq9.h.2;done)|(exact zq9.h.1;exact zq9.h.2.1;exact zq9.h.2.2;done)|(exact zq9.h.1;exact zq9.h.2.1;exact zq9.h.2.2.1;exact zq9.h.2.2.2;done)|(exact zq9.h.1;exact zq9.h.2.1;exact zq9.h.2.2.1;exact zq9.h.2.2.2.1;exact zq9.h.2.2.2.2;done)|(exact zq9.h.1;exact zq9.h.2.1;exact zq9.h.2.2.1;exact zq9.h.2.2.2.1;exact zq9.h.2.2.2.2.1;exact zq9.h.2.2.2.2.2;done))):p:=h ⟨k⟩
theorem WD {p q:Prop} (k:q) (h:bE q->p:=by(intro zq9;(repeat' (first|refine WZ ?_|refine SG (I2 (λzh8=>?_) (λzh8=>?_))|refine SG (λzh8=>?_)|(refine zE ?_;refine SM ?_)|refine SX ?_|fail));(all_goals (repeat revert zh8));first|done|(exact zq9.h;done)|(exact zq9.h.1;exact zq9.h.2;done)|(exact zq9.h.1;exact zq9.h.2.1;exact zq9.h.2.2;done)|(exact zq9.h.1;exact zq9.h.2.1;exact zq9.h.2.2.1;exact zq9.h.2.2.2;done)|(exact zq9.h.1;exact zq9.h.2.1;exact zq9.h.2.2.1;exact zq9.h.2.2.2.1;exact zq9.h.2.2.2.2;done)|(exact zq9.h.1;exact zq9.h.2.1;exact zq9.h.2.2.1;exact zq9.h.2.2.2.1;exact zq9.h.2.2.2.2.1;exact zq9.h.2.2.2.2.2;done))):p:=h ⟨k⟩
theorem eN {f:Nat} {fn:Func} {body:Code} {args:List AV} {h0:List (Nat×xN)} {r:AV} {h1:List (Nat×xN)} (hf:prog.funcs[f]? =some fn) (able:cZ prog f) (h:∀F:Fr (yD h0),F.ro=none/\F.it=false->uG prog F fn.ntmps body ⟨VW 0 args,h0⟩ (Fin TT fn.results.toList h0 r h1)) (hb:fn.body=some body:=by exact rfl) (hlen:Nat.ble args.length fn.ntmps=true:=by exact rfl) (hnd:vX h0=true:=by exact rfl) (hnd1:vX h1=true:=by exact rfl) (hgs:Nat.ble fn.ntmps GS=true:=by rfl):xP prog f args h0 r h1:=WK tok hf hb able hlen hnd hnd1 h hgs
theorem zJ {TT:List TI} {rs:List ResultVar} {h0:List (Nat×xN)} {r:AV} {h1:List (Nat×xN)} {st:St} {vs:List AV} (h:MN TT st rs=some vs:=by exact rfl) (hK:(yD h0).all (([]:List Nat).contains ·)=true:=by exact rfl) (hr:WN (wN [] (zC st.h) (DS vs))=r:=by exact rfl) (hh:wX [] (zC st.h)=h1:=by exact rfl):Fin TT rs h0 r h1 .ret st:=zI [] h hK hr hh
structure zT2 (A B:Prop):Prop where
  mk::(a1:A) (b1:B)
theorem wZ {A B:Prop} (a1:A) (b1:B):zT2 A B:=⟨a1,b1⟩
theorem ze2 {A B p:Prop} (z:zT2 A B) (h:A->B->p):p:=h z.a1 z.b1
structure zT3 (A B C:Prop):Prop where
  mk::(a1:A) (b1:B) (c1:C)
theorem fB {A B C:Prop} (a1:A) (b1:B) (c1:C):zT3 A B C:=⟨a1,b1,c1⟩
theorem ze3 {A B C p:Prop} (z:zT3 A B C) (h:A->B->C->p):p:=h z.a1 z.b1 z.c1
structure zT4 (A B C D:Prop):Prop where
  mk::(a1:A) (b1:B) (c1:C) (d1:D)
theorem aB {A B C D:Prop} (a1:A) (b1:B) (c1:C) (d1:D):zT4 A B C D:=⟨a1,b1,c1,d1⟩
theorem ze4 {A B C D p:Prop} (z:zT4 A B C D) (h:A->B->C->D->p):p:=h z.a1 z.b1 z.c1 z.d1
structure zT5 (A B C D E:Prop):Prop where
  mk::(a1:A) (b1:B) (c1:C) (d1:D) (e1:E)
theorem zt5 {A B C D E:Prop} (a1:A) (b1:B) (c1:C) (d1:D) (e1:E):zT5 A B C D E:=⟨a1,b1,c1,d1,e1⟩
theorem ze5 {A B C D E p:Prop} (z:zT5 A B C D E) (h:A->B->C->D->E->p):p:=h z.a1 z.b1 z.c1 z.d1 z.e1
structure zT6 (A B C D E F:Prop):Prop where
  mk::(a1:A) (b1:B) (c1:C) (d1:D) (e1:E) (f1:F)
theorem zt6 {A B C D E F:Prop} (a1:A) (b1:B) (c1:C) (d1:D) (e1:E) (f1:F):zT6 A B C D E F:=⟨a1,b1,c1,d1,e1,f1⟩
theorem ze6 {A B C D E F p:Prop} (z:zT6 A B C D E F) (h:A->B->C->D->E->F->p):p:=h z.a1 z.b1 z.c1 z.d1 z.e1 z.f1
structure zT7 (A B C D E F G:Prop):Prop where
  mk::(a1:A) (b1:B) (c1:C) (d1:D) (e1:E) (f1:F) (g1:G)
theorem zt7 {A B C D E F G:Prop} (a1:A) (b1:B) (c1:C) (d1:D) (e1:E) (f1:F) (g1:G):zT7 A B C D E F G:=⟨a1,b1,c1,d1,e1,f1,g1⟩
theorem ze7 {A B C D E F G p:Prop} (z:zT7 A B C D E F G) (h:A->B->C->D->E->F->G->p):p:=h z.a1 z.b1 z.c1 z.d1 z.e1 z.f1 z.g1
structure zT8 (A B C D E F G H:Prop):Prop where
  mk::(a1:A) (b1:B) (c1:C) (d1:D) (e1:E) (f1:F) (g1:G) (h1:H)
theorem zt8 {A B C D E F G H:Prop} (a1:A) (b1:B) (c1:C) (d1:D) (e1:E) (f1:F) (g1:G) (h1:H):zT8 A B C D E F G H:=⟨a1,b1,c1,d1,e1,f1,g1,h1⟩
theorem ze8 {A B C D E F G H p:Prop} (z:zT8 A B C D E F G H) (h:A->B->C->D->E->F->G->H->p):p:=h z.a1 z.b1 z.c1 z.d1 z.e1 z.f1 z.g1 z.h1
theorem yQ {Y p q:Prop} (zc0:Y) (k:q) (h:Y->bE q->p:=by(intro zc0 zq9;(first|refine ze2 zc0 (λzc1 zc2=>?_)|refine ze3 zc0 (λzc1 zc2 zc3=>?_)|refine ze4 zc0 (λzc1 zc2 zc3 zc4=>?_)|refine ze5 zc0 (λzc1 zc2 zc3 zc4 zc5=>?_)|refine ze6 zc0 (λzc1 zc2 zc3 zc4 zc5 zc6=>?_)|refine ze7 zc0 (λzc1 zc2 zc3 zc4 zc5 zc6 zc7=>?_)|refine ze8 zc0 (λzc1 zc2 zc3 zc4 zc5 zc6 zc7 zc8=>?_));(repeat' (first|refine WZ ?_|refine SG (I2 (λzh8=>?_) (λzh8=>?_))|refine SG (λzh8=>?_)|(refine zE ?_;refine SM ?_)|refine SR ?_|refine SK (I2 (λzh8=>?_) (λzh8=>?_))|refine SK (λzh8=>?_)|fail));(all_goals (repeat revert zh8));first|done|(exact zq9.h;done)|(exact zq9.h.1;exact zq9.h.2;done)|(exact zq9.h.1;exact zq9.h.2.1;exact zq9.h.2.2;done)|(exact zq9.h.1;exact zq9.h.2.1;exact zq9.h.2.2.1;exact zq9.h.2.2.2;done)|(exact zq9.h.1;exact zq9.h.2.1;exact zq9.h.2.2.1;exact zq9.h.2.2.2.1;exact zq9.h.2.2.2.2;done)|(exact zq9.h.1;exact zq9.h.2.1;exact zq9.h.2.2.1;exact zq9.h.2.2.2.1;exact zq9.h.2.2.2.2.1;exact zq9.h.2.2.2.2.2;done))):p:=h zc0 ⟨k⟩
theorem zU {Y p q:Prop} (zc0:Y) (k:q) (h:Y->bE q->p:=by(intro zc1 zq9;(repeat' (first|refine WZ ?_|refine SG (I2 (λzh8=>?_) (λzh8=>?_))|refine SG (λzh8=>?_)|(refine zE ?_;refine SM ?_)|refine SR ?_|refine SK (I2 (λzh8=>?_) (λzh8=>?_))|refine SK (λzh8=>?_)|fail));(all_goals (repeat revert zh8));first|done|(exact zq9.h;done)|(exact zq9.h.1;exact zq9.h.2;done)|(exact zq9.h.1;exact zq9.h.2.1;exact zq9.h.2.2;done)|(exact zq9.h.1;exact zq9.h.2.1;exact zq9.h.2.2.1;exact zq9.h.2.2.2;done)|(exact zq9.h.1;exact zq9.h.2.1;exact zq9.h.2.2.1;exact zq9.h.2.2.2.1;exact zq9.h.2.2.2.2;done)|(exact zq9.h.1;exact zq9.h.2.1;exact zq9.h.2.2.1;exact zq9.h.2.2.2.1;exact zq9.h.2.2.2.2.1;exact zq9.h.2.2.2.2.2;done))):p:=h zc0 ⟨k⟩
theorem LO {Y p q:Prop} (zc0:Y) (k:q) (h:Y->bE q->p:=by(intro zc0 zq9;(first|refine ze2 zc0 (λzc1 zc2=>?_)|refine ze3 zc0 (λzc1 zc2 zc3=>?_)|refine ze4 zc0 (λzc1 zc2 zc3 zc4=>?_)|refine ze5 zc0 (λzc1 zc2 zc3 zc4 zc5=>?_)|refine ze6 zc0 (λzc1 zc2 zc3 zc4 zc5 zc6=>?_)|refine ze7 zc0 (λzc1 zc2 zc3 zc4 zc5 zc6 zc7=>?_)|refine ze8 zc0 (λzc1 zc2 zc3 zc4 zc5 zc6 zc7 zc8=>?_));(repeat' (first|refine WY ?_|refine SG (I2 (λzh8=>?_) (λzh8=>?_))|refine SG (λzh8=>?_)|(refine zE ?_;first|refine SL ?_|refine SM ?_)|refine SB ?_|refine SR ?_|refine SK (I2 (λzh8=>?_) (λzh8=>?_))|refine SK (λzh8=>?_)|fail));(all_goals (repeat revert zh8));first|done|(exact zq9.h;done)|(exact zq9.h.1;exact zq9.h.2;done)|(exact zq9.h.1;exact zq9.h.2.1;exact zq9.h.2.2;done)|(exact zq9.h.1;exact zq9.h.2.1;exact zq9.h.2.2.1;exact zq9.h.2.2.2;done)|(exact zq9.h.1;exact zq9.h.2.1;exact zq9.h.2.2.1;exact zq9.h.2.2.2.1;exact zq9.h.2.2.2.2;done)|(exact zq9.h.1;exact zq9.h.2.1;exact zq9.h.2.2.1;exact zq9.h.2.2.2.1;exact zq9.h.2.2.2.2.1;exact zq9.h.2.2.2.2.2;done))):p:=h zc0 ⟨k⟩
theorem WLo {Y p q:Prop} (zc0:Y) (k:q) (h:Y->bE q->p:=by(intro zc1 zq9;(repeat' (first|refine WY ?_|refine SG (I2 (λzh8=>?_) (λzh8=>?_))|refine SG (λzh8=>?_)|(refine zE ?_;first|refine SL ?_|refine SM ?_)|refine SB ?_|refine SR ?_|refine SK (I2 (λzh8=>?_) (λzh8=>?_))|refine SK (λzh8=>?_)|fail));(all_goals (repeat revert zh8));first|done|(exact zq9.h;done)|(exact zq9.h.1;exact zq9.h.2;done)|(exact zq9.h.1;exact zq9.h.2.1;exact zq9.h.2.2;done)|(exact zq9.h.1;exact zq9.h.2.1;exact zq9.h.2.2.1;exact zq9.h.2.2.2;done)|(exact zq9.h.1;exact zq9.h.2.1;exact zq9.h.2.2.1;exact zq9.h.2.2.2.1;exact zq9.h.2.2.2.2;done)|(exact zq9.h.1;exact zq9.h.2.1;exact zq9.h.2.2.1;exact zq9.h.2.2.2.1;exact zq9.h.2.2.2.2.1;exact zq9.h.2.2.2.2.2;done))):p:=h zc0 ⟨k⟩
theorem WDc {Y p q:Prop} (zc0:Y) (k:q) (h:Y->bE q->p:=by(intro zc0 zq9;(first|refine ze2 zc0 (λzc1 zc2=>?_)|refine ze3 zc0 (λzc1 zc2 zc3=>?_)|refine ze4 zc0 (λzc1 zc2 zc3 zc4=>?_)|refine ze5 zc0 (λzc1 zc2 zc3 zc4 zc5=>?_)|refine ze6 zc0 (λzc1 zc2 zc3 zc4 zc5 zc6=>?_)|refine ze7 zc0 (λzc1 zc2 zc3 zc4 zc5 zc6 zc7=>?_)|refine ze8 zc0 (λzc1 zc2 zc3 zc4 zc5 zc6 zc7 zc8=>?_));(repeat' (first|refine WZ ?_|refine SG (I2 (λzh8=>?_) (λzh8=>?_))|refine SG (λzh8=>?_)|(refine zE ?_;refine SM ?_)|refine SX ?_|fail));(all_goals (repeat revert zh8));first|done|(exact zq9.h;done)|(exact zq9.h.1;exact zq9.h.2;done)|(exact zq9.h.1;exact zq9.h.2.1;exact zq9.h.2.2;done)|(exact zq9.h.1;exact zq9.h.2.1;exact zq9.h.2.2.1;exact zq9.h.2.2.2;done)|(exact zq9.h.1;exact zq9.h.2.1;exact zq9.h.2.2.1;exact zq9.h.2.2.2.1;exact zq9.h.2.2.2.2;done)|(exact zq9.h.1;exact zq9.h.2.1;exact zq9.h.2.2.1;exact zq9.h.2.2.2.1;exact zq9.h.2.2.2.2.1;exact zq9.h.2.2.2.2.2;done))):p:=h zc0 ⟨k⟩
theorem WDo {Y p q:Prop} (zc0:Y) (k:q) (h:Y->bE q->p:=by(intro zc1 zq9;(repeat' (first|refine WZ ?_|refine SG (I2 (λzh8=>?_) (λzh8=>?_))|refine SG (λzh8=>?_)|(refine zE ?_;refine SM ?_)|refine SX ?_|fail));(all_goals (repeat revert zh8));first|done|(exact zq9.h;done)|(exact zq9.h.1;exact zq9.h.2;done)|(exact zq9.h.1;exact zq9.h.2.1;exact zq9.h.2.2;done)|(exact zq9.h.1;exact zq9.h.2.1;exact zq9.h.2.2.1;exact zq9.h.2.2.2;done)|(exact zq9.h.1;exact zq9.h.2.1;exact zq9.h.2.2.1;exact zq9.h.2.2.2.1;exact zq9.h.2.2.2.2;done)|(exact zq9.h.1;exact zq9.h.2.1;exact zq9.h.2.2.1;exact zq9.h.2.2.2.1;exact zq9.h.2.2.2.2.1;exact zq9.h.2.2.2.2.2;done))):p:=h zc0 ⟨k⟩
theorem eM {f:Nat} {fn:Func} {body:Code} {args:List AV} {h0:List (Nat×xN)} {r:AV} {h1:List (Nat×xN)} (able:cZ prog f) (h:∀F:Fr (yD h0),F.ro=none/\F.it=false->uG prog F fn.ntmps body ⟨VW 0 args,h0⟩ (Fin TT fn.results.toList h0 r h1)) (hf:prog.funcs[f]? =some fn:=by exact rfl) (hb:fn.body=some body:=by exact rfl) (hlen:Nat.ble args.length fn.ntmps=true:=by exact rfl) (hnd:vX h0=true:=by exact rfl) (hnd1:vX h1=true:=by exact rfl) (hgs:Nat.ble fn.ntmps GS=true:=by rfl):xP prog f args h0 r h1:=eN hf able h hb hlen hnd hnd1 hgs
abbrev zN:=xP prog
theorem BK {p:Prop} (h:p:=by(apply uD;(exact zJ);simp only[kE,zYn,zX9,zY9,zZr,zZg,yAf,yBj];omega)):p:=h
theorem zXO {p:Prop} (h:p:=by(exfalso;omega)):p:=h
theorem zB {p:Prop} (h:p:=by omega):p:=h
def iA (n:Int):AV:= .s (.int .i64 n)
def yA (n:Int):AV:= .s (.int .u8 n)
def bA (b:Bool):AV:= .s (.bool b)
def zD {α:Type} (f:α->AV) (l:List α):AV:= .sl false (l.map f)
structure Cl where
 ag:Int
 id:Int
 ph:Int
 k:Int
 si:Int
structure Sv where
 ph:Int
 gr:Int
 en:List Int
structure Ph where
 ring:Int
 group:Int
 ming:Int
 maxg:Int
 yel:Int
 red:Int
 walk:Int
 clear:Int
structure Jn where
 ph:List Ph
 cf:List Int
 st:Int
structure Ag where
 sec:List Int
 rights:Int
 cls:Int
 lim:List Int
 req:Int
 ses:Int
 rate:Int
 burst:Int
structure Cf where
 js:List Jn
 ags:List Ag
 per:Int
 cap:Int
 hold:Int
 lock:Int
structure Tk where
 used:Bool
 sec:List Int
 par:Int
 rights:Int
 cls:Int
 til:Int
structure Vh where
 id:Int
 cls:Int
structure Bk where
 level:Int
 rate:Int
 burst:Int
structure Rg where
 num:Int
 ag:Ag
 tk:List Tk
 vh:List Vh
 bk:Bk
structure Ms where
 kind:Int
 tok:List Int
 args:List Int
 data:List Int
def dT (c:Cl):AV:= .agg [iA c.ag,iA c.id,iA c.ph,iA c.k,iA c.si]
def wT (s:Sv):AV:= .agg [iA s.ph,iA s.gr,zD iA s.en]
def wU (p:Ph):AV:= .agg [iA p.ring,iA p.group,iA p.ming,iA p.maxg,iA p.yel,iA p.red,iA p.walk,iA p.clear]
def wH (j:Jn):AV:= .agg [zD wU j.ph,zD iA j.cf,iA j.st]
def vC (a:Ag):AV:= .agg [zD yA a.sec,iA a.rights,iA a.cls,zD iA a.lim,iA a.req,iA a.ses,iA a.rate,iA a.burst]
def wP (c:Cf):AV:= .agg [zD wH c.js,zD vC c.ags,iA c.per,iA c.cap,iA c.hold,iA c.lock]
def xB (t:Tk):AV:= .agg [bA t.used,zD yA t.sec,iA t.par,iA t.rights,iA t.cls,iA t.til]
def vT (v:Vh):AV:= .agg [iA v.id,iA v.cls]
def bkA (b:Bk):AV:= .agg [iA b.level,iA b.rate,iA b.burst]
def uX (r:Rg):AV:= .agg [iA r.num,zD yA r.ag.sec,iA r.ag.rights,iA r.ag.cls,zD iA r.ag.lim,iA r.ag.req,iA r.ag.ses,iA r.ag.rate,iA r.ag.burst,zD xB r.tk,zD vT r.vh,iA r.bk.level,iA r.bk.rate,iA r.bk.burst]
def yE (m:Ms):AV:= .agg [iA m.kind,zD yA m.tok,zD iA m.args,zD yA m.data]
instance:Inhabited Tk:=⟨⟨false,[],-1,0,0,0⟩⟩
instance:Inhabited Vh:=⟨⟨0,0⟩⟩
instance:Inhabited Cl:=⟨⟨0,0,0,0,0⟩⟩
instance:Inhabited Ph:=⟨⟨0,0,0,0,0,0,0,0⟩⟩
instance:Inhabited Jn:=⟨⟨[],[],0⟩⟩
instance:Inhabited Ag:=⟨⟨[],0,0,[],0,0,0,0⟩⟩
theorem uD {TT:List TI} {rs:List ResultVar} {h0 h1:List (Nat×xN)} {e:Exit} {st:St} {b b':Bool} (h:Fin TT rs h0 (bA b') h1 e st) (hb:b'=b):Fin TT rs h0 (bA b) h1 e st:=hb▸h
theorem zM {α:Type} [Inhabited α] (f:α->AV) (l:List α) (i:Nat) (h:i<l.length):(l.map f)[i]? =some (f (l.getD i default)):=by simp[List.getD,h]
theorem yM {α:Type} [Inhabited α] (f:α->AV) (l:List α) (i:Int) (h0:0<=i) (h:i<l.length):(l.map f)[i.toNat]? =some (f (l.getD i.toNat default)):=zM f l _ (by omega)
def OD (k:IntKind) (n:Int):Int:=k.wrap (BitVec.ofInt k.bits (if k.signed=true then -1 else k.max) ^^^ BitVec.ofInt k.bits n).toNat
theorem QE {P:Program} {st:St} {tx:Nat} {x:Operand} {k:IntKind} {n:Int} (hx:yN (zG st.tm) x= .s (.int k n)):wR P st (.unOp .xor tx x) (.s (.int k (OD k n))) [] [] []:=
 yO λo X tm h w β a ho hg _ _ Ht=>by
  obtain⟨dst,op',type,pos,after,guard⟩:=o;dsimp only at ho;subst ho;have h1:=vL Ht hg (x:=x) vZ hx;exact⟨.int k (OD k n),by simp[execOp,h1,Op.unary,Op.intBits,OD],.fz _ _ (.s _)⟩
def uA (n:Int):AV:= .s (.int .u32 n)
def MM (a b:Int):Int:=IntKind.u32.wrap (BitVec.ofInt IntKind.u32.bits a ^^^ BitVec.ofInt IntKind.u32.bits b).toNat
def zO6 (a b:Int):Int:=IntKind.u32.wrap (BitVec.ofInt IntKind.u32.bits a &&& BitVec.ofInt IntKind.u32.bits b).toNat
def orU (a b:Int):Int:=IntKind.u32.wrap (BitVec.ofInt IntKind.u32.bits a ||| BitVec.ofInt IntKind.u32.bits b).toNat
def zWr (a:Int) (n:Nat):Int:=a.fdiv (2 ^ (min n IntKind.u32.bits))
def crS (r:Int):Int:=if zO6 r 1=1 then MM (zWr r 1) 3988292384 else zWr r 1
def crN (r:Int):Nat->Int
 |0=>r
 |i+1=>crS (crN r i)
def crB (r x:Int):Int:=crN (MM r x) 8
def crF (r:Int) (l:List Int):Int:=l.foldl crB r
def aH (l:List Int):Int:=OD .u32 (crF (OD .u32 0) l)
theorem DK (r:Int) (l:List Int) (x:Int):crF r (l++[x])=crB (crF r l) x:=by simp[crF]
section
variable {P:Program} {tm:List (Nat×AV)} {h:List (Nat×xN)} {tx ty:Nat} {x y:Operand} {m n:Int}
theorem VT (hx:yN (zG tm) x= .s (.int .u32 m)) (hy:yN (zG tm) y= .s (.int .u32 n)):wR P ⟨tm,h⟩ (.binOp .and tx x y ty) (.s (.int .u32 (zO6 m n))) [] [] []:=QI hx hy
theorem zO7 (hx:yN (zG tm) x= .s (.int .u32 m)) (hy:yN (zG tm) y= .s (.int .u32 n)):wR P ⟨tm,h⟩ (.binOp .or tx x y ty) (.s (.int .u32 (orU m n))) [] [] []:=HM hx hy
end
theorem zUc (r:Int) (l:List Int) (hl:l.length<=1000000) (hb:BY l):xP prog 171 [uA r,zD yA l] [] (uA (OD .u32 (crF (OD .u32 r) l))) []:=by
 have hll:=zA yA l
 (refine eM call171 λF hF=>?_)
 (repeat' (first|refine qB ?_|refine xO (λhc=>?_) (λhc=>?_)|refine wB (λhc=>?_)|(refine zE ?_;first|(refine OI ?_;refine xI (QE rfl) rfl ?_))|fail))
 generalize OD .u32 r=r0 at*
 (refine zY (l) [] [] [11,12] [5,13,11,12] rfl (λi pre T U=>⟨(5,uA (crF r0 pre))::(13,iA i)::T,U⟩) ?_;(conv=>whnf);refine⟨by rfl,?_,?_⟩)
 ·intro i pre x post hx hi;have hy:=yI yA hx hi;have hlt:=yB hx hi;have hbx:=hb x (xX hx);rw[DK];clear hx;generalize crF r0 pre=q at*
  (refine WW ?_)
  (refine zP (8) [] [] [11,12,13] [5,21,11,12,13] rfl (λi T U=>⟨(5,uA (crN (MM q x) i))::(21,iA i)::T,U⟩) ?_;(conv=>whnf);refine⟨by rfl,?_,?_⟩)
  ·intro k hk;have e:crN (MM q x) (k+1)=crS (crN (MM q x) k):=rfl;rw[e];generalize crN (MM q x) k=z at *;unfold crS;by_cases hz:zO6 z 1=1
   ·rw[zX1 hz]
    (repeat' (first|refine qB ?_|refine xO (λhc=>?_) (λhc=>?_)|refine wB (λhc=>?_)|(refine zE ?_;first|(refine wW ?_;refine xI (VT rfl rfl) rfl ?_))|fail))
    rfl
   ·rw[zX0 hz]
    (repeat' (first|refine qB ?_|refine xO (λhc=>?_) (λhc=>?_)|refine wB (λhc=>?_)|(refine zE ?_;first|(refine wW ?_;refine xI (VT rfl rfl) rfl ?_))|fail))
    rfl
  ·(refine WW ?_)
   rfl
 ·(repeat' (first|refine qB ?_|refine xO (λhc=>?_) (λhc=>?_)|refine wB (λhc=>?_)|(refine zE ?_;first|(refine OI ?_;refine xI (QE rfl) rfl ?_))|fail))
  exact zJ
theorem zQt (l:List Int) (hl:l.length<=1000000) (hb:BY l):xP prog 128 [zD yA l] [] (uA (aH l)) []:=by
 have c:=zUc 0 l hl hb
 (refine eM call128 λF hF=>?_)
 (have zc1:=c;refine WW ?_;clear zc1)
 exact zJ
theorem zO8 (r:Int) (l:List Int) (hl:l.length<=1000000) (hb:BY l):xP prog 207 [uA r,zD yA l] [] (uA (OD .u32 (crF (OD .u32 r) l))) []:=by
 have hll:=zA yA l
 (refine eM call207 λF hF=>?_)
 (repeat' (first|refine qB ?_|refine xO (λhc=>?_) (λhc=>?_)|refine wB (λhc=>?_)|(refine zE ?_;first|(refine OI ?_;refine xI (QE rfl) rfl ?_))|fail))
 generalize OD .u32 r=r0 at*
 (refine zY (l) [] [] [11,12] [5,13,11,12] rfl (λi pre T U=>⟨(5,uA (crF r0 pre))::(13,iA i)::T,U⟩) ?_;(conv=>whnf);refine⟨by rfl,?_,?_⟩)
 ·intro i pre x post hx hi;have hy:=yI yA hx hi;have hlt:=yB hx hi;have hbx:=hb x (xX hx);rw[DK];clear hx;generalize crF r0 pre=q at*
  (refine WW ?_)
  (refine zP (8) [] [] [11,12,13] [5,21,11,12,13] rfl (λi T U=>⟨(5,uA (crN (MM q x) i))::(21,iA i)::T,U⟩) ?_;(conv=>whnf);refine⟨by rfl,?_,?_⟩)
  ·intro k hk;have e:crN (MM q x) (k+1)=crS (crN (MM q x) k):=rfl;rw[e];generalize crN (MM q x) k=z at *;unfold crS;by_cases hz:zO6 z 1=1
   ·rw[zX1 hz]
    (repeat' (first|refine qB ?_|refine xO (λhc=>?_) (λhc=>?_)|refine wB (λhc=>?_)|(refine zE ?_;first|(refine wW ?_;refine xI (VT rfl rfl) rfl ?_))|fail))
    rfl
   ·rw[zX0 hz]
    (repeat' (first|refine qB ?_|refine xO (λhc=>?_) (λhc=>?_)|refine wB (λhc=>?_)|(refine zE ?_;first|(refine wW ?_;refine xI (VT rfl rfl) rfl ?_))|fail))
    rfl
  ·(refine WW ?_)
   rfl
 ·(repeat' (first|refine qB ?_|refine xO (λhc=>?_) (λhc=>?_)|refine wB (λhc=>?_)|(refine zE ?_;first|(refine OI ?_;refine xI (QE rfl) rfl ?_))|fail))
  exact zJ
theorem zUd (l:List Int) (hl:l.length<=1000000) (hb:BY l):xP prog 183 [zD yA l] [] (uA (aH l)) []:=by
 have c:=zO8 0 l hl hb
 (refine eM call183 λF hF=>?_)
 (have zc1:=c;refine WW ?_;clear zc1)
 exact zJ
def gB (p:Nat->Bool):Nat->Int
 |0=>0
 |n+1=>if p n=true then gB p n+p2 n else gB p n
theorem IL (p:Nat->Bool):∀n:Nat,n<=30->0<=gB p n/\gB p n<p2 n
 |0,_=>⟨zZ8 0,by show(0:Int)<1;decide⟩
 | n+1,h=>by
  have ih:=IL p n (by omega)
  have h2:p2 ((n+1:Nat):Int)=2*p2 (n:Int):=by
   unfold p2;rw[zZh,zZh,yDn];omega
  have:=zQ2 n (by omega);unfold gB
  split<;>omega
theorem cV {p q:Nat->Bool}:∀n:Nat,(∀i,i<n->p i=q i)->gB p n=gB q n
 |0,_=>rfl
 |n+1,h=>by unfold gB;rw[h n (by omega),cV n λi hi=>h i (by omega)]
def bq (b0 b1 b2 b3 b4 b5 b6 b7:Bool):Nat->Bool
 |0=>b0|1=>b1|2=>b2|3=>b3|4=>b4|5=>b5|6=>b6|7=>b7|_=>false
theorem zWs:∀b0 b1 b2 b3 b4 b5 b6 b7:Bool,∀i:_root_.Fin 8,(jU (uB (gB (bq b0 b1 b2 b3 b4 b5 b6 b7) 8) i.val) 1==1)=bq b0 b1 b2 b3 b4 b5 b6 b7 i.val:=by decide +kernel
theorem zO9 (p:Nat->Bool) (i:Nat) (hi:i<8):(jU (uB (gB p 8) i) 1==1)=p i:=by
 have e:∀j,j<8->p j=bq (p 0) (p 1) (p 2) (p 3) (p 4) (p 5) (p 6) (p 7) j:=λj hj=>by
  match j,hj with
  |0,_=>rfl|1,_=>rfl|2,_=>rfl|3,_=>rfl|4,_=>rfl|5,_=>rfl|6,_=>rfl|7,_=>rfl
  |j+8,h=>omega
 rw[cV 8 e,e i hi];exact zWs _ _ _ _ _ _ _ _ ⟨i,hi⟩
def bsN (p:Nat->Bool):Nat->Nat
 |0=>0
 |n+1=>if p n=true then bsN p n+2 ^ n else bsN p n
theorem DL (p:Nat->Bool):∀n,gB p n=(bsN p n:Int)
 |0=>rfl
 |n+1=>by
  unfold gB bsN;rw[DL p n];split
  ·unfold p2;simp
  ·rfl
theorem OE (p:Nat->Bool):∀n,bsN p n<2 ^ n
 |0=>(show 0<1 by omega)
 |n+1=>by
  have:=OE p n;unfold bsN;rw[Nat.pow_succ]
  split<;>omega
theorem bN (p:Nat->Bool):∀n i,(bsN p n).testBit i=(decide (i<n)&&p i)
 |0,i=>by simp[bsN]
 | n+1,i=>by
  have hlt:=OE p n;unfold bsN
  rcases yDk i n with h|h|h
  ·rw[zX8 (by omega),zYp];split
   ·rw[Nat.add_comm,Nat.testBit_two_pow_add_gt h,bN p n i,zX8 h,zYp]
   ·rw[bN p n i,zX8 h,zYp]
  ·subst h;rw[zX8 (by omega),zYp];split
   ·rename_i hp;rw[Nat.add_comm,Nat.testBit_two_pow_add_eq,bN p i i,zYa (by omega),hp];rfl
   ·rename_i hp;rw[bN p i i,zYa (by omega)];simpa using hp
  ·rw[zYa (by omega),zZw];refine Nat.testBit_lt_two_pow ?_;have h2:2 ^ (n+1)<=2 ^ i:=yBy (by omega) (by omega);rw[Nat.pow_succ]at h2
   split<;>omega
theorem IM (a b:Nat) (ha:a<2 ^ 30) (hb:b<2 ^ 30):orI a b=((a ||| b:Nat):Int):=by
 have h:=Nat.or_lt_two_pow ha hb;unfold orI;rw[yBw,yBw,BitVec.toNat_or,yBp,yBp];have e:(2:Nat) ^ IntKind.i64.bits=18446744073709551616:=by decide
 rw[e,yAt (by omega),yAt (by omega)];exact kF (k:= .i64) (by unfold XC;omega)
theorem zUe (p q:Nat->Bool):orI (gB p 8) (gB q 8)=gB (λi=>p i||q i) 8:=by
 have h1:=OE p 8;have h2:=OE q 8;rw[DL,DL,DL,IM _ _ (by omega) (by omega)]
 congr 1
 apply Nat.eq_of_testBit_eq;intro i;rw[yDt,bN,bN,bN]
 cases decide (i<8)<;>simp
theorem zCk (n:Int) (h0:0<=n) (h1:n<=200):xP prog 127 [iA n] [] (iA (6+n+4)) []:=by
 (refine eM call127 λF hF=>?_)
 (refine WW ?_)
 exact zJ
def DM (l:List Int):Int:=l.foldl (λn x=>orU (IntKind.u32.wrap (n*2 ^ (min (8:Int).toNat IntKind.u32.bits))) x) 0
theorem zJ5 (l:List Int) (hl:l.length<=1000000) (hb:BY l):xP prog 172 [zD yA l] [] (uA (DM l)) []:=by
 have hll:=zA yA l
 (refine eM call172 λF hF=>?_)
 (refine WW ?_)
 (refine zY (l) [] [] [6,7] [3,8,6,7] rfl (λi pre T U=>⟨(3,uA (DM pre))::(8,iA i)::T,U⟩) ?_;(conv=>whnf);refine⟨by rfl,?_,?_⟩)
 ·intro i pre x post hx hi;have hy:=yI yA hx hi;have hlt:=yB hx hi;have hbx:=hb x (xX hx);rw[show DM (pre++[x])=orU (IntKind.u32.wrap (DM pre*2 ^ (min (8:Int).toNat IntKind.u32.bits))) x by simp[DM]];clear hx;generalize DM pre=q at*
  (repeat' (first|refine qB ?_|refine xO (λhc=>?_) (λhc=>?_)|refine wB (λhc=>?_)|(refine zE ?_;first|(refine wW ?_;refine xI (zO7 rfl rfl) rfl ?_))|fail))
  rfl
 ·(refine WW ?_)
  exact zJ
def be4 (s:Int):List Int:=(List.range 4).map λi:Nat=>IntKind.u8.wrap (s.fdiv (2 ^ (min (8*(3-(i:Int))).toNat IntKind.u32.bits)))
def aC (k:Int) (n:Nat):List Int:=[1,k,0,(n:Int)]
def frF (k:Int) (p:List Int):List Int:=90::165::(aC k p.length++p)++be4 (aH (aC k p.length++p))
theorem zXw (n:Nat) (z a b c d e f:AV) (ys:List AV) (hy:ys.length=n):((((((List.replicate (n+10) z).set 0 a).set 1 b).set 2 c).set 3 d).set 4 e).set 5 f=a::b::c::d::e::f::List.replicate (n+4) z:=by
 rw[show n+10=n+4+1+1+1+1+1+1 by omega];simp[yBl]
theorem zJ6 (A B:List Int) (z:Int) (i:Nat) (hi:i<B.length):(A++B.take i++List.replicate (B.length-i) z).set (A.length+i) (B.getD i default)=A++B.take (i+1)++List.replicate (B.length-(i+1)) z:=by
 have h1:(A++B.take i).length=A.length+i:=by rw[zX3,zYo];omega
 rw[show B.length-i=B.length-(i+1)+1 by omega,yBl,yA0 _ _ (by omega),h1,yAe,yB8,zX5,zYi hi,yB3 hi];simp only[zYv,yA3,yAq,zZ3]
theorem zPa (s:Int):(be4 s).length=4:=rfl
section
variable {P:Program} {TT:List TI} {K0:List Nat} {F:Fr K0} {m:Nat} {ops:Array Oper} {rest:List Oper} {Q:List FP->St->Prop} {tm:List (Nat×AV)} {h:List (Nat×xN)} {dr:Bool} {fs:List FP} {ty:Nat} {pos:String} {after:Array Edge} {t:Nat}
theorem zJ7 (hP:uR P TT) {T e key len sz:Nat} {x l r:Operand} {ti te:TI} {xs:List AV} {sl:Fl} {k1 k2:IntKind} {i j:Int} (hx:yN (zG tm) x= .ref key 0 len) (hk:zC h key=some (.arr sz xs sl)) (hl:yN (zG tm) l= .s (.int k1 i)) (hr:yN (zG tm) r= .s (.int k2 j)) (hT:TT[T]? =some ti) (hd:ti.d= .slice e) (he:TT[e]? =some te)
  (hsz:Nat.beq sz te.size=true) (a b:Nat) (ha:i=a) (hb:j=b) (h0:a<=b) (h1:b<=len) (hm:Nat.blt t m=true) (hq:yC P F m ops dr rest ⟨(t,.ref key a (b-a))::tm,h⟩ (⟨true,[],[key]⟩::fs) Q):
  yC P F m ops dr (⟨some t,.slice T x (some l) (some r) none,ty,pos,after,none⟩::rest) ⟨tm,h⟩ fs Q:=by
 have:=fE (P:=P) (st:=⟨tm,h⟩) (lo:=some l) (hi:=some r) (l:=a) (r:=b) hP hx hk hT hd he ⟨k1,i,hl,by omega⟩ ⟨k2,j,hr,by omega⟩ h0 h1 hsz;rw[zY6]at this;exact xI this hm hq
end
def fr6 (k:Int) (p:List Int):List AV:=((((((List.replicate (p.length+10) (yA 0)).set 0 (yA 90)).set 1 (yA 165)).set 2 (yA 1)).set 3 (yA k)).set 4 (.s (.int .u8 (IntKind.u8.wrap (uB (((p.map yA).length:Nat):Int) 8))))).set 5 (.s (.int .u8 (((p.map yA).length:Nat):Int)))
def fr7 (k:Int) (p:List Int):List AV:=(fr6 k p).take 6++p.map yA++(fr6 k p).drop (6+(p.map yA).length)
def DN (k:Int) (p:List Int) (i:Nat):List Int:=(90::165::(aC k p.length++p))++(be4 (aH (aC k p.length++p))).take i++List.replicate (4-i) 0
theorem zUf (k:Int) (p:List Int) (hp:p.length<=200):fr7 k p=(DN k p 0).map yA:=by
 have h1:IntKind.u8.wrap (uB (((p.map yA).length:Nat):Int) 8)=0:=by
  have:uB (((p.map yA).length:Nat):Int) 8=0:=by
   unfold uB;rw[zX2,yBh _ yZ]
   show(p.length:Int)/256=0
   omega
  rw[this];rfl
 have h2:fr6 k p=yA 90::yA 165::yA 1::yA k::yA 0::yA p.length::List.replicate (p.length+4) (yA 0):=by
  unfold fr6;rw[h1,zX2];exact zXw p.length (yA 0) _ _ _ _ _ _ (p.map yA) (zX2 ..)
 unfold fr7 DN aC;rw[h2,zX2];simp only[yDb,yAp,yA3,yAq,zZl,zYc,zY5,yBi,yCr,zYv];rw[show 6+p.length=p.length+1+1+1+1+1+1 by omega];simp only[yBe,List.drop_replicate];rw[show p.length+4-p.length=4 by omega]
theorem zQu {k:Int} {p:List Int} (k0:0<=k) (k1:k<=255) (hb:BY p) (hp:p.length<=200):BY (aC k p.length++p):=by
 intro x hx
 rcases zYl.1 hx with hx|hx
 ·unfold aC at hx;simp only[zZi,yBn,yCy]at hx;omega
 ·exact hb x hx
theorem zUg (k:Int) (p:List Int) (k0:0<=k) (k1:k<=255) (hb:BY p) (hp:p.length<=200):xP prog 73 [iA k,zD yA p] [] (.tup [zD yA (frF k p),iA 0]) []:=by
 have hlp:=zA yA p;have kz:=zCk ((p.map yA).length) (by omega) (by omega);have hh:∀y,(p.map yA)[0]? =some y->y.cells.length=1:=xT _ _ (λ_=>rfl);have hnn:6+((p.map yA).length:Int)+4=((p.length+10:Nat):Int):=by omega
 rw[hnn]at kz;have hX:=zUf k p hp;have hdb:=zQu k0 k1 hb hp
 have kc:xP prog 128 [.sl false (((fr7 k p).drop 2).take (6+p.length-2))] [] (uA (aH (aC k p.length++p))) []:=by
  rw[hX,<-yBs,<-yBt]
  have e:((DN k p 0).drop 2).take (6+p.length-2)=aC k p.length++p:=by
   unfold DN;rw[yAp,zY5,yA3,yA3,yBe,yBe,zY2];exact List.take_left' (by unfold aC;simp;omega)
  rw[e];exact zQt _ (by unfold aC;simp;omega) hdb
 unfold fr7 fr6 at kc hX;unfold frF;have hbl:=zPa (aH (aC k p.length++p))
 have hfl:∀i,i<4->(DN k p (i+1)).map yA=((DN k p i).map yA).set (p.length+6+i) (yA ((be4 (aH (aC k p.length++p))).getD i default)):=λi hi=>by
  have h1:=zJ6 (90::165::(aC k p.length++p)) (be4 (aH (aC k p.length++p))) 0 i (by rw[hbl];exact hi);rw[hbl,show(90::165::(aC k p.length++p)).length+i=p.length+6+i by simp[aC]<;>omega]at h1;unfold DN;rw[<-h1,zZ9]
 (refine eM call73 λF hF=>?_)
 (have zc1:=kz;have zc2:=kc;(repeat' (first|refine qB ?_|refine xO (λhc=>?_) (λhc=>?_)|refine wB (λhc=>?_)|(refine zE ?_;first|refine SM ?_|(refine jN ?_;first|refine fG tok rfl rfl rfl rfl rfl rfl rfl (by omega) (by omega) rfl ?_|refine zJ7 tok rfl rfl rfl rfl rfl rfl rfl rfl 2 (6+p.length) rfl (by omega) (by omega) (by omega) rfl ?_)|(refine uN (NI tok rfl rfl rfl rfl rfl rfl rfl hh rfl (by show _<=p.length+4;omega)) rfl rfl rfl ?_))|fail))<;>clear zc1 zc2)
 (refine zP (4) [23] [] [6,7,8] [52,6,7,8] rfl (λi T U=>⟨(52,iA i)::T,(23,.arr 1 ((DN k p i).map yA) false)::U⟩) ?_;(conv=>whnf);refine⟨by(rw[<-hX];rfl),?_,?_⟩)
 ·intro i hi;have e:=hfl i hi
  have hbe:(be4 (aH (aC k p.length++p))).getD i default=IntKind.u8.wrap ((aH (aC k p.length++p)).fdiv (2 ^ (min (8*(3-(i:Int))).toNat IntKind.u32.bits))):=by
   unfold be4;rw[zX5,zX4,zYx hi];rfl
  rw[hbe,show p.length+6+i=(6+(p.length:Int)+i).toNat by omega]at e;rw[e];clear hfl hX kc e hbe
  have hlen:((DN k p i).map yA).length=p.length+10:=by
   unfold DN;simp[aC,be4];omega
  have hy:((DN k p i).map yA)[(6+(p.length:Int)+i).toNat]? =some (yA ((DN k p i).getD (6+(p.length:Int)+i).toNat default)):=zM yA _ _ (by rw[zX2]at hlen;omega);generalize (DN k p i).getD (6+(p.length:Int)+i).toNat default=y0 at *;rw[<-hlp]at hy⊢;generalize aH (aC k p.length++p)=s at *;generalize (DN k p i).map yA=X at*
  (refine WW ?_)
  rfl
 ·(refine WW ?_)
  refine zI [] rfl rfl ?_ rfl
  show AV.tup [.sl false (List.take (p.length+10) ((DN k p 4).map yA)),iA 0]=_
  have e:DN k p 4=90::165::(aC k p.length++p)++be4 (aH (aC k p.length++p)):=by
   unfold DN;rw[zYb (by rw[hbl];omega),yAe,yCk,zY5]
  rw[e,zYb (by rw[zX2];simp[aC,be4]<;>omega)];rfl
theorem zPb (v n : Int) (h1 : 1 ≤ n) : -n < v.tmod n ∧ v.tmod n < n ∧ v % n=if v.tmod n<0 then v.tmod n+n else v.tmod n:=by
  have e0:=yBd v (show n≠0 by omega);have e1:=yA2 v (show 0<n by omega)
  have e2 : v.tmod n = if 0 ≤ v ∨ n ∣ v then v % n else v % n - n := by rw[Int.tmod_eq_emod];have:(n.natAbs:Int)=n:=by omega
                                                                        split<;>omega
  rw[e2];split
  · refine⟨by omega,by omega,?_⟩;rw[zX0 (by omega)]
  · rename_i hd;have:v % n≠0:=λh=>hd (.inr (Int.dvd_of_emod_eq_zero h))
    refine⟨by omega,by omega,?_⟩;rw[zX1 (by omega)];omega
theorem DO (v n:Int) (h1:1<=n) (h2:n<=1099511627776):xP prog 16 [iA v,iA n] [] (iA (v % n)) []:=by
 obtain⟨b1,b2,e⟩:=zPb v n h1;by_cases h:v.tmod n<0
 ·rw[e,zX1 h]
  (refine eM call16 λF hF=>?_)
  (repeat' (first|refine YF ?_|refine xO (λhc=>?_) (λhc=>?_)|fail))
  exact zJ
 ·rw[e,zX0 h]
  (refine eM call16 λF hF=>?_)
  (repeat' (first|refine YF ?_|refine xO (λhc=>?_) (λhc=>?_)|fail))
  exact zJ
structure Dk where
 l:List Int
 a:Nat
 h:a<=l.length
 hl:l.length<=9223372036854775807
def dU (d:Dk):xN:= .box [zD iA d.l,iA d.a]
def nx (d:Dk) (n:Int):Int:=if d.a<d.l.length then d.l.getD d.a 0 % n else 0
def ad (d:Dk):Dk:=if h:d.a<d.l.length then⟨d.l,d.a+1,h,d.hl⟩else d
theorem yF (d:Dk) (n:Int) (h1:1<=n):0<=nx d n/\nx d n<n:=by
 unfold nx;split
 ·exact⟨yBd _ (by omega),yA2 _ (by omega)⟩
 ·omega
theorem OF (l:List Int) (hl:l.length<=9223372036854775807):xP prog 11 [zD iA l] [] (.ptr 1000 0 0) [(1000,dU ⟨l,0,zYe _,hl⟩)]:=by
 (refine eM call11 λF hF=>?_)
 repeat' (first|refine vN tok rfl rfl ?_|(first|refine xS ?_|refine xD ?_|refine vD rfl ?_|refine zX rfl ?_|refine zQ rfl ?_|refine xK rfl (λhc=>?_) (λhc=>?_)|refine yY ?_|refine yU ?_|refine xE ?_|refine yT ?_)|refine qF ?_|refine uN (jF (v:= .agg _) 1000 rfl rfl) rfl rfl rfl ?_)
 exact zL [1000] rfl rfl rfl rfl
theorem yH (d:Dk) (n:Int) (h1:1<=n) (h2:n<=1099511627776):xP prog 22 [.ptr 1000 0 0,iA n] [(1000,dU d)] (iA (nx d n)) [(1000,dU (ad d))]:=by
 have hl:(d.l.map iA).length=d.l.length:=by simp
 have hb:=d.hl;by_cases h:d.a<d.l.length
 ·have hy:=yM iA d.l ((d.a:Int)+1-1) (by omega) (by omega);rw[show nx d n=d.l.getD ((d.a:Int)+1-1).toNat 0 % n by unfold nx;rw[zX1 h,show((d.a:Int)+1-1).toNat=d.a by omega]];rw[show ad d=⟨d.l,d.a+1,h,d.hl⟩ by unfold ad;rw[yDu h]]
  (refine eM call22 λF hF=>?_)
  (repeat' (first|refine YF ?_|refine xO (λhc=>?_) (λhc=>?_)|(refine zE ?_;refine wD ?_;refine xI (zH (DO _ _ h1 h2) rfl rfl rfl rfl rfl) rfl ?_)|fail))
  exact zL [1000] rfl rfl rfl rfl
 ·rw[show nx d n=0 by unfold nx;rw[zX0 h],show ad d=d by unfold ad;rw[dif_neg h]]
  (refine eM call22 λF hF=>?_)
  (repeat' (first|refine YF ?_|refine xO (λhc=>?_) (λhc=>?_)|(refine zE ?_;refine wD ?_;refine xI (zH (DO _ _ h1 h2) rfl rfl rfl rfl rfl) rfl ?_)|fail))
  exact zL [1000] rfl rfl rfl rfl
theorem kU (d:Dk) (lo hi:Int) (h1:0<=lo) (h2:lo<=hi) (h3:hi<=1000000000):xP prog 37 [.ptr 1000 0 0,iA lo,iA hi] [(1000,dU d)] (iA (lo+nx d (hi-lo+1))) [(1000,dU (ad d))]:=by
 have hb:=yF d (hi-lo+1) (by omega)
 (refine eM call37 λF hF=>?_)
 (repeat' (first|refine YF ?_|refine xO (λhc=>?_) (λhc=>?_)|(refine zE ?_;refine wD ?_;refine uN (zH (yH d _ (by omega) (by omega)) rfl rfl rfl rfl rfl) rfl rfl rfl ?_)|fail))
 exact zL [1000] rfl rfl rfl rfl
structure Lg where
 jn:Int
 ph:Int
 fr:Int
 to:Int
 sc:Int
structure Rq where
 id:Int
 vh:Int
 cls:Int
 til:Int
 legs:List Lg
instance:Inhabited Lg:=⟨⟨0,0,0,0,0⟩⟩
instance:Inhabited Rq:=⟨⟨0,0,0,0,[]⟩⟩
def xU (l:Lg):AV:= .agg [iA l.jn,iA l.ph,iA l.fr,iA l.to,iA l.sc]
def yK (r:Rq):AV:= .agg [iA r.id,iA r.vh,iA r.cls,iA r.til,zD xU r.legs]
def plB (j p:Int):Bool:=decide (0<=j/\j<4/\0<=p/\p<8)
def mwB (j p f t now:Int):Bool:=decide (0<=j/\j<4/\0<=p/\p<8/\0<=now/\now<=1073741824/\0<=f/\f<=t/\t<=600)
def mwF (j p f t now:Int):Lg:=if mwB j p f t now=true then⟨j,p,now+f,now+t,-1⟩else⟨0,0,0,0,0⟩
def IN (l:Lg):Bool:=decide (0<=l.jn/\l.jn<4/\0<=l.ph/\l.ph<8/\0<=l.fr/\l.fr<=l.to/\l.to<=2147483648/\ -1<=l.sc/\l.sc<=1073741824)
def liB (l:Lg) (now:Int):Bool:=decide (l.fr<=now/\now<=l.to)
def ZG (l:Lg) (now:Int):Lg:=if liB l now=true then(if l.sc= -1 then⟨l.jn,l.ph,l.fr,l.to,now⟩else l)else⟨l.jn,l.ph,l.fr,l.to,-1⟩
theorem zCl (j p:Int):xP prog 289 [iA j,iA p] [] (bA (plB j p)) []:=by
 (cases hb:plB j p with|false=>((refine eM call289 λF hF=>?_);((refine WW (I4 (λhc hc hc=>?_) (λhc hc hc=>?_) (λhc hc=>?_) (λhc=>?_))));all_goals (first|exact zJ|(simp only[plB,zYn]at hb;first|(exfalso;omega)|(apply uD;(exact zJ);simp only[kE,zYn,zX9,zY9,zZr,zZg,yAf,yBj];omega))))|true=>(simp only[plB,zX9]at hb;(refine eM call289 λF hF=>?_);((refine WW ?_));all_goals (first|exact zJ|(exfalso;omega)|(apply uD;(exact zJ);simp only[kE,zYn,zX9,zY9,zZr,zZg,yAf,yBj];omega))))
theorem zCm (j p f t now:Int):xP prog 267 [iA j,iA p,iA f,iA t,iA now] [] (.tup [xU (mwF j p f t now),iA (if mwB j p f t now=true then 0 else 8)]) []:=by
 have c1:=zCl j p;unfold mwF
 cases hb:mwB j p f t now with
 | false=>
  rw[zX0 zYk,zX0 zYk];unfold mwB at hb;rw[zYn]at hb;unfold plB at c1;unfold xU;by_cases hp:0<=j/\j<4/\0<=p/\p<8
  ·rw[zX8 hp]at c1
   (refine eM call267 λF hF=>?_)
   (have zc1:=c1;refine WW (I5 (λhc=>?_) (λhc hc=>?_) (λhc hc hc=>?_) (λhc hc hc hc=>?_) (λhc hc hc hc=>?_))<;>clear zc1)
   all_goals (first|exact zJ|(exfalso;omega))
  ·rw[zYa hp]at c1
   (refine eM call267 λF hF=>?_)
   (have zc1:=c1;refine WW ?_;clear zc1)
   all_goals (first|exact zJ|(exfalso;omega))
 |true=>
  rw[zX1 rfl,zX1 rfl];unfold mwB at hb;rw[zX9]at hb;unfold plB at c1;rw[zX8 (by omega)]at c1;unfold xU
  (refine eM call267 λF hF=>?_)
  (have zc1:=c1;refine WW ?_;clear zc1)
  exact zJ
theorem zJ8 (l:Lg) (now:Int):xP prog 219 [xU l,iA now] [] (bA (liB l now)) []:=by
 (cases hb:liB l now with|false=>((refine eM call219 λF hF=>?_);((refine WW (I2 (λhc=>?_) (λhc=>?_))));all_goals (first|exact zJ|(simp only[liB,zYn]at hb;first|(exfalso;omega)|(apply uD;(exact zJ);simp only[kE,zYn,zX9,zY9,zZr,zZg,yAf,yBj];omega))))|true=>(simp only[liB,zX9]at hb;(refine eM call219 λF hF=>?_);((refine WW ?_));all_goals (first|exact zJ|(exfalso;omega)|(apply uD;(exact zJ);simp only[kE,zYn,zX9,zY9,zZr,zZg,yAf,yBj];omega))))
theorem fC (l:Lg) (now:Int):xP prog 194 [xU l,iA now] [] (xU (ZG l now)) []:=by
 have c:=zJ8 l now;unfold ZG;generalize liB l now=b at*
 cases b with
 |false=>
  rw[zX0 zYk];unfold xU at*
  (refine eM call194 λF hF=>?_)
  (have zc1:=c;refine WW ?_;clear zc1)
  exact zJ
 | true=>
  rw[zX1 rfl];by_cases h:l.sc= -1
  ·rw[zX1 h];unfold xU at*
   (refine eM call194 λF hF=>?_)
   (have zc1:=c;refine WW ?_;clear zc1)
   exact zJ
  ·rw[zX0 h];unfold xU at*
   (refine eM call194 λF hF=>?_)
   (have zc1:=c;refine WW ?_;clear zc1)
   exact zJ
theorem zJ9 (l:Lg):xP prog 306 [xU l] [] (bA (IN l)) []:=by
 have c1:=zCl l.jn l.ph
 cases hb:IN l with
 | false=>
  unfold IN at hb;rw[zYn]at hb;unfold plB at c1;by_cases hp:0<=l.jn/\l.jn<4/\0<=l.ph/\l.ph<8
  ·rw[zX8 hp]at c1
   (refine eM call306 λF hF=>?_)
   (have zc1:=c1;refine WW (I5 (λhc hc hc hc=>?_) (λhc hc hc hc=>?_) (λhc hc hc=>?_) (λhc hc=>?_) (λhc=>?_))<;>clear zc1)
   all_goals (first|exact zJ|(exfalso;omega)|(apply uD;(exact zJ);simp only[kE,zYn,zX9,zY9,zZr,zZg,yAf,yBj];omega))
  ·rw[zYa hp]at c1
   (refine eM call306 λF hF=>?_)
   (have zc1:=c1;refine WW ?_;clear zc1)
   all_goals (first|exact zJ|(exfalso;omega)|(apply uD;(exact zJ);simp only[kE,zYn,zX9,zY9,zZr,zZg,yAf,yBj];omega))
 |true=>
  unfold IN at hb;rw[zX9]at hb;unfold plB at c1;rw[zX8 (by omega)]at c1
  (refine eM call306 λF hF=>?_)
  (have zc1:=c1;refine WW ?_;clear zc1)
  all_goals (first|exact zJ|(exfalso;omega)|(apply uD;(exact zJ);simp only[kE,zYn,zX9,zY9,zZr,zZg,yAf,yBj];omega))
def eG:List Lg->List Lg->Bool
 |_,[]=>true
 |pre,x::post=>IN x&&(!(pre.any λy=>y.jn==x.jn)&&eG (pre++[x]) post)
def vgF (l:List Lg):Bool:=decide (1<=(l.length:Int)/\(l.length:Int)<=3)&&eG [] l
theorem zPc {pre post:List Lg} {x:Lg} (h:IN x=false):eG pre (x::post)=false:=by simp[eG,h]
theorem zPd {pre post:List Lg} {x y:Lg} (hy:y∈pre) (h:y.jn=x.jn):eG pre (x::post)=false:=by
 have:(pre.any λy=>y.jn==x.jn)=true:=zZp.2 ⟨y,hy,by simpa using h⟩;simp[eG,this]
theorem zEk {pre post:List Lg} {x:Lg} (h:IN x=true) (hn:∀y∈pre,y.jn≠x.jn):eG pre (x::post)=eG (pre++[x]) post:=by
 have:(pre.any λy=>y.jn==x.jn)=false:=by simpa using hn
 simp[eG,h,this]
theorem zCn (l:List Lg):xP prog 292 [zD xU l] [] (bA (vgF l)) []:=by
 have hl:=zA xU l;unfold vgF;by_cases h3:1<=(l.length:Int)/\(l.length:Int)<=3
 case neg=>
  rw[zYa h3,zZw];by_cases h1:1<=(l.length:Int)
  ·(refine eM call292 λF hF=>?_)
   (refine WW ?_)
   exact zJ
  ·(refine eM call292 λF hF=>?_)
   (refine WW ?_)
   exact zJ
 rw[zX8 h3,zYp];obtain⟨h1,h3⟩:=h3
 (refine eM call292 λF hF=>?_)
 (refine WW ?_)
 (refine qM (l) [] [] [0,15,16] [17,0,15,16] rfl (λi pre T U zs=>(∀post,l=pre++post->eG [] l=eG pre post)/\zs=⟨(17,iA i)::T,U⟩) ?_;(conv=>whnf);refine⟨?_,?_,?_⟩)
 ·exact⟨λpost h=>by rw[h];rfl,rfl⟩
 ·rintro i pre x post st hx hi ⟨hp,rfl⟩;have hy:=yI xU hx hi;have hlt:=yB hx hi;rw[hp _ hx];have cv:=zJ9 x
  have hnext:IN x=true->(∀y∈pre,y.jn≠x.jn)->∀p,l=(pre++[x])++p->eG pre (x::post)=eG (pre++[x]) p:=λa b p h=>by
   have e:p=post:=by rw[hx,zYv]at h;simpa using h.symm
   rw[e];exact zEk a b
  cases hv:IN x with
  |false=>
   rw[zPc hv];rw[hv]at cv;clear hx hp hnext
   (have zc1:=cv;refine WW ?_;clear zc1)
   exact zJ
  | true=>
   rw[hv]at cv;have ht:l.take i=pre:=by rw[hx,<-hi];simp
   have hl2:(List.map xU (List.take (i:Int).toNat l)).length=(l.take i).length:=zA xU (l.take i);have hl3:(l.take i).length=i:=by rw[ht];exact hi
   (have zc1:=cv;refine WW ?_;clear zc1)
   (refine qM (l.take i) [4] [4] [0,4,15,16,17,27,28] [29,0,4,15,16,17,27,28] rfl (λi pre T U zs=>(∀y∈pre,y.jn≠x.jn)/\zs=⟨(29,iA i)::T,U⟩) ?_;(conv=>whnf);refine⟨?_,?_,?_⟩)
   ·exact⟨by simp,rfl⟩
   ·rintro k pr y po st2 hq hk ⟨hp2,rfl⟩;have hy2:=yI xU hq hk;have hlt2:=yB hq hk;by_cases he:y.jn=x.jn
    ·rw[zPd (by rw[<-ht,hq];simp) he];clear hq hx hp hnext
     (refine WW ?_)
     exact zJ
    ·have hp3:∀z∈pr++[y],z.jn≠x.jn:=λz hz=>by
      simp only[zYl,zYz]at hz
      rcases hz with hz|rfl
      ·exact hp2 z hz
      ·exact he
     clear hq hx hp hnext
     (refine WW ?_)
     exact⟨hp3,rfl⟩
   ·rintro st2 ⟨hp2,rfl⟩;have hnx:=hnext hv (by rw[<-ht];exact hp2);clear hx hp hnext
    (refine WW ?_)
    exact⟨hnx,rfl⟩
 ·rintro st ⟨hp,rfl⟩;rw[hp [] zS]
  (refine WW ?_)
  exact zJ
structure RqO (r:Rq):Prop where
 i0:0<=r.id
 i1:r.id<=4294967295
 v0:0<=r.vh
 v1:r.vh<=4294967295
 c0:0<=r.cls
 c1:r.cls<=3
 t0:0<=r.til
 t1:r.til<=2147483648
 lg:vgF r.legs=true
structure aM (l:List Rq):Prop where
 ok:∀r∈l,RqO r
 so:l.Pairwise λa b=>a.id<b.id
 n4:l.length<=4
theorem aM.lt {l:List Rq} (h:aM l) {i:Nat} (h0:0<i) (hi:i<l.length):(l.getD (i-1) default).id<(l.getD i default).id:=by
 have:=List.pairwise_iff_getElem.1 h.so (i-1) i (by omega) hi (by omega);simpa [List.getD,hi,show i-1<l.length by omega]using this
theorem IO {l:List Lg} (h:vgF l=true):1<=(l.length:Int)/\(l.length:Int)<=3:=by
 unfold vgF at h;rw[zYh]at h;exact yCd h.1
theorem OG (n:Int):xP prog 290 [iA n] [] (bA (decide (0<=n/\n<=4294967295))) []:=by
 cases hb:decide (0<=n/\n<=4294967295)with
 |false=>(rw[zYn]at hb;(refine eM call290 λF hF=>?_);((refine WW (I2 (λhc=>?_) (λhc=>?_))));all_goals (first|exact zJ|(exfalso;omega)|(apply uD;(exact zJ);simp only[kE,zYn,zX9,zY9,zZr,zZg,yAf,yBj];omega)))
 |true=>(rw[zX9]at hb;(refine eM call290 λF hF=>?_);((refine WW ?_));all_goals (first|exact zJ|(exfalso;omega)|(apply uD;(exact zJ);simp only[kE,zYn,zX9,zY9,zZr,zZg,yAf,yBj];omega)))
theorem zAm (n:Int):xP prog 291 [iA n] [] (bA (decide (0<=n/\n<=3))) []:=by
 cases hb:decide (0<=n/\n<=3)with
 |false=>(rw[zYn]at hb;(refine eM call291 λF hF=>?_);((refine WW (I2 (λhc=>?_) (λhc=>?_))));all_goals (first|exact zJ|(exfalso;omega)|(apply uD;(exact zJ);simp only[kE,zYn,zX9,zY9,zZr,zZg,yAf,yBj];omega)))
 |true=>(rw[zX9]at hb;(refine eM call291 λF hF=>?_);((refine WW ?_));all_goals (first|exact zJ|(exfalso;omega)|(apply uD;(exact zJ);simp only[kE,zYn,zX9,zY9,zZr,zZg,yAf,yBj];omega)))
theorem zCo (n:Int):xP prog 270 [iA n] [] (bA (decide (0<=n/\n<=1073741824))) []:=by
 cases hb:decide (0<=n/\n<=1073741824)with
 |false=>(rw[zYn]at hb;(refine eM call270 λF hF=>?_);((refine WW (I2 (λhc=>?_) (λhc=>?_))));all_goals (first|exact zJ|(exfalso;omega)|(apply uD;(exact zJ);simp only[kE,zYn,zX9,zY9,zZr,zZg,yAf,yBj];omega)))
 |true=>(rw[zX9]at hb;(refine eM call270 λF hF=>?_);((refine WW ?_));all_goals (first|exact zJ|(exfalso;omega)|(apply uD;(exact zJ);simp only[kE,zYn,zX9,zY9,zZr,zZg,yAf,yBj];omega)))
theorem VU (l:List Rq) (q:Int) (hv:aM l) (hq:(l.length:Int)<=q):xP prog 269 [zD yK l,iA q] [] (bA true) []:=by
 have hl:=zA yK l;have h4:=hv.n4
 (refine eM call269 λF hF=>?_)
 (refine WW ?_)
 (refine zP (l.length) [] [] [0,16,17] [18,0,16,17] rfl (λi T U=>⟨(18,iA i)::T,U⟩) ?_;(conv=>whnf);refine⟨by rfl,?_,?_⟩)
 ·intro i hi;have hy:=zM yK l i hi;have hm:l.getD i default∈l:=by simp[List.getD,hi]
  obtain⟨i0,i1,v0,v1,c0,c1,t0,t1,lg⟩:=hv.ok _ hm;have k1:=OG (l.getD i default).id;have k2:=OG (l.getD i default).vh;have k3:=zAm (l.getD i default).cls;have k4:=zCn (l.getD i default).legs;rw[zX8 (by omega)]at k1 k2 k3;rw[lg]at k4;by_cases hi0:0<i
  ·have hyp:=yM yK l ((i:Int)-1) (by omega) (by omega);rw[show((i:Int)-1).toNat=i-1 by omega]at hyp;have hyq:(l.map yK)[((i:Int)-1).toNat]? =some (yK (l.getD (i-1) default)):=by rw[show((i:Int)-1).toNat=i-1 by omega];exact hyp
   have hlt:=hv.lt hi0 hi;clear hyp hm lg;generalize l.getD i default=t at *;generalize l.getD (i-1) default=p at*
   (have zc1:=k1;have zc2:=k2;have zc3:=k3;have zc4:=k4;refine WW ?_;clear zc1 zc2 zc3 zc4)
   rfl
  ·obtain rfl:i=0:=by omega
   clear hm lg;generalize l.getD 0 default=t at*
   (have zc1:=k1;have zc2:=k2;have zc3:=k3;have zc4:=k4;refine WW ?_;clear zc1 zc2 zc3 zc4)
   rfl
 ·(refine WW ?_)
  exact zJ
end Av
end Go.Proofs.YtmamjhmoegjapaaGreat
