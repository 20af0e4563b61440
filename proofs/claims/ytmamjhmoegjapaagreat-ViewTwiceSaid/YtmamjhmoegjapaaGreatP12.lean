/- Part 12. -/
import Derived.Test.YtmamjhmoegjapaaGreatP11
namespace Go.Proofs.YtmamjhmoegjapaaGreat
namespace Av
open Tryz
set_option linter.all false
set_option maxRecDepth 4000
set_option maxHeartbeats 2000000
structure aA (q:Prop):Prop where
 h:q
structure FzD (n:Nat) (K ts:List Nat):Prop where
theorem I2 {a b:Prop} (x:a) (y:b):a/\b:=⟨x,y⟩
theorem I4 {a b c d:Prop} (x:a) (y:b) (z:c) (u:d):a/\b/\c/\d:=⟨x,y,z,u⟩
theorem I5 {a b c d e:Prop} (x:a) (y:b) (z:c) (u:d) (v:e):a/\b/\c/\d/\e:=⟨x,y,z,u,v⟩
theorem I6 {a b c d e f:Prop} (x:a) (y:b) (z:c) (u:d) (v:e) (w:f):a/\b/\c/\d/\e/\f:=⟨x,y,z,u,v,w⟩
section
variable {P:Program} {K0:List Nat} {F:Fr K0} {m:Nat} {ops:Array Oper} {rest:List Oper} {Q:List FP->St->Prop} {dr:Bool} {fs:List FP} {ty t:Nat} {pos:String} {after:Array Edge} {st:St}
theorem XN {n:Nat} {az0:List AV} {h0:List (Nat×xP)} {r:AV} {h1:List (Nat×xP)} (_:yH P n az0 h0 r h1) {az:Array Operand} {ts:Array Nat} (hk:zY P F m ops dr (⟨some t,.call ⟨.value (.func n),az,ts⟩,ty,pos,after,none⟩::rest) st fs Q):zY P F m ops dr (⟨some t,.call ⟨.value (.func n),az,ts⟩,ty,pos,after,none⟩::rest) st fs Q:=hk
theorem AW {n:Nat} {K ts:List Nat} (_:FzD n K ts) {az:Array Operand} {tz:Array Nat} (hk:zY P F m ops dr (⟨some t,.call ⟨.value (.func n),az,tz⟩,ty,pos,after,none⟩::rest) st fs Q):zY P F m ops dr (⟨some t,.call ⟨.value (.func n),az,tz⟩,ty,pos,after,none⟩::rest) st fs Q:=hk
theorem PK {tm:List (Nat×AV)} {h:List (Nat×xP)} {Q:List FP->St->Prop} {n:Nat} {K ts:List Nat} (_:FzD n K ts) (hK:K0.all (K.contains ·)=true) (h1:fS K (zC h) tm ts λT=>fK K (zC h) K λU=>zY P F m ops false rest ⟨T,U⟩ fs Q):zY P F m ops false rest ⟨tm,h⟩ fs Q:=gB K ts hK h1
end
theorem CC {p q:Prop} (k:q) (h:aA q->p:=by(intro zq9;(((first|refine XN zc ?_|refine aB ?_);first|refine yF (zH (zc) rfl rfl rfl rfl rfl) rfl ?_|refine uF (zH (zc) rfl rfl rfl rfl rfl) rfl rfl rfl ?_|refine bJ (zH (zc) rfl rfl rfl rfl rfl) rfl rfl rfl ?_|refine yF (wG (zc) rfl rfl rfl rfl rfl) rfl ?_|refine uF (wG (zc) rfl rfl rfl rfl rfl) rfl rfl rfl ?_));exact zq9.h)):p:=h ⟨k⟩
theorem PT {p q:Prop} (k:q) (h:aA q->p:=by(intro zq9;(first|refine wZ tok rfl rfl ?_|(refine bK ?_;first|refine zHv rfl rfl ?_|refine EB rfl rfl rfl rfl ?_)|(refine wS ?_;first|refine yF (cU rfl rfl rfl (by unfold TM;omega)) rfl ?_|refine yF (cV rfl rfl rfl (by unfold TM;omega)) rfl ?_|refine yF (VJ rfl rfl rfl) rfl ?_|refine yF (VZ rfl rfl ⟨by omega,by omega⟩) rfl ?_|refine yF (UA rfl rfl ⟨by omega,by omega⟩) rfl ?_|refine yF (UB rfl rfl ⟨by omega,by omega⟩) rfl ?_|refine yF (UC rfl rfl OF (by omega)) rfl ?_|refine yF (UD rfl rfl (by omega)) rfl ?_|refine yF (UE rfl rfl) rfl ?_|refine yF (OP rfl rfl (by omega)) rfl ?_|refine yF (OQ rfl rfl (by omega)) rfl ?_|refine yF (uU (.inl ⟨rfl,rfl⟩) rfl rfl (by omega)) rfl ?_|refine yF (uU (.inr ⟨rfl,rfl⟩) rfl rfl (by omega)) rfl ?_|refine yF (kJ tok rfl rfl rfl rfl (.inl ⟨rfl,rfl⟩)) rfl ?_|refine yF (kJ tok rfl rfl rfl rfl (.inr ⟨rfl,rfl⟩)) rfl ?_|refine yF (dG tok (.inl ⟨rfl,rfl⟩) rfl rfl rfl) rfl ?_|refine yF (yM tok (.inl ⟨rfl,rfl⟩) rfl rfl rfl rfl) rfl ?_|refine yF (OL rfl rfl) rfl ?_|refine yF (IP rfl rfl) rfl ?_|refine yF (OM rfl rfl) rfl ?_|refine yF (XW rfl rfl OF) rfl ?_|refine yF (YD rfl rfl) rfl ?_|refine yF (XX rfl rfl OF) rfl ?_|refine yF (YE rfl rfl) rfl ?_)|(refine PQ ?_;first|refine yF (qN tok rfl rfl rfl rfl rfl (by omega) kC rfl rfl) rfl ?_|refine yF (qK tok rfl rfl rfl rfl rfl rfl (by omega) (by omega) rfl) rfl ?_|refine yF (qA tok rfl rfl rfl rfl rfl rfl (by omega) (by omega)) rfl ?_)|(refine VQ ?_;first|refine yF (jY tok rfl rfl rfl kC rfl) rfl ?_|refine yF (jX tok rfl rfl rfl kC rfl) rfl ?_|refine yF (jI tok rfl rfl rfl rfl kC rfl) rfl ?_|refine yF (jH tok rfl rfl rfl rfl kC rfl) rfl ?_)|(refine PR ?_;first|refine yF (uZ tok rfl rfl rfl rfl rfl rfl rfl rfl) rfl ?_|refine yF (qM tok rfl kC rfl rfl rfl rfl rfl rfl) rfl ?_)|(refine yW ?_;first|refine xX tok rfl rfl rfl rfl rfl rfl rfl (by first|(intro y hy;cases hy;rfl)|exact yY _ _ (λ_=>rfl)) rfl rfl rfl (by first|omega|(simp;done)|(simp;omega)) rfl ?_|refine uL tok rfl rfl rfl rfl rfl rfl rfl rfl rfl rfl rfl (by first|(intro y hy;cases hy;rfl)|exact yY _ _ (λ_=>rfl)) (by first|omega|(simp;done)|(simp;omega)) rfl ?_)|(refine VL ?_;first|refine yF (UF rfl ⟨by omega,by omega⟩) rfl ?_)|(refine VK ?_;first|refine yF (fI tok rfl rfl rfl rfl ⟨by omega,by omega⟩) rfl ?_|refine yF (cZ tok rfl rfl rfl rfl) rfl ?_|refine yF (ZD tok rfl rfl rfl rfl rfl rfl rfl kC) rfl ?_)|(refine qD ?_;first|refine ZE tok rfl rfl rfl rfl rfl (by first|(intro y hy;cases hy;rfl)|exact yY _ _ (λ_=>rfl)|assumption|(simp;done)) (by omega) wI zHz rfl ?_|refine ON tok rfl rfl rfl rfl rfl (by first|(intro y hy;cases hy;rfl)|exact yY _ _ (λ_=>rfl)|assumption|(simp;done)) (by omega) wI zH0 rfl ?_|refine IQ tok rfl rfl rfl rfl rfl rfl (by first|(intro y hy;cases hy;rfl)|exact yY _ _ (λ_=>rfl)|assumption|(simp;done)) (by omega) (by omega) (by first|omega|(simp;omega)) zH1 rfl ?_));exact zq9.h)):p:=h ⟨k⟩
theorem SB {p q:Prop} (k:q) (h:aA q->p:=by(intro zq9;refine zE ?_;(first|(refine OS ?_;refine yF (qO rfl rfl rfl) rfl ?_)|refine dX tok rfl rfl rfl rfl ?_|(refine dE ?_;first|refine OU tok rfl rfl rfl rfl rfl rfl ?_|refine fY tok rfl rfl rfl ?_|refine zAn tok rfl rfl rfl kC rfl rfl rfl rfl rfl rfl ?_|refine OT tok rfl rfl rfl kC rfl rfl rfl rfl rfl rfl rfl rfl ?_)|refine uM ?_|refine aY OE ?_);exact zq9.h)):p:=h ⟨k⟩
theorem SC {p q:Prop} (k:q) (h:aA q->p:=by(intro zq9;((first|(refine AW zf1 ?_;refine PK zf1 rfl ?_;(conv=>whnf);(try simp only[zZv,zYv]))|(refine AW zf2 ?_;refine PK zf2 rfl ?_;(conv=>whnf);(try simp only[zZv,zYv]))|(refine AW zf3 ?_;refine PK zf3 rfl ?_;(conv=>whnf);(try simp only[zZv,zYv]))|skip);first|(have zc:=zc1;refine CC ?_;clear zc)|(have zc:=zc2;refine CC ?_;clear zc)|(have zc:=zc3;refine CC ?_;clear zc)|(have zc:=zc4;refine CC ?_;clear zc)|(have zc:=zc5;refine CC ?_;clear zc)|(have zc:=zc6;refine CC ?_;clear zc)|(have zc:=zc7;refine CC ?_;clear zc)|(have zc:=zc8;refine CC ?_;clear zc)|(have zc:=zc9;refine CC ?_;clear zc)|(have zc:=zc10;refine CC ?_;clear zc)|(have zc:=zc11;refine CC ?_;clear zc)|(have zc:=zc12;refine CC ?_;clear zc)|(have zc:=zc13;refine CC ?_;clear zc)|(have zc:=zc14;refine CC ?_;clear zc)|(have zc:=zc15;refine CC ?_;clear zc)|(have zc:=zc16;refine CC ?_;clear zc)|fail);exact zq9.h)):p:=h ⟨k⟩
theorem WZ {p q:Prop} (k:q) (h:aA q->p:=by(intro zq9;(repeat1' (first|(refine zE ?_;first|refine PT ?_|(refine xT ?_;refine SC ?_)|refine SB ?_)|refine xM ?_|refine xB ?_|refine yV ?_|refine xC ?_));exact zq9.h)):p:=h ⟨k⟩
theorem WS {p q:Prop} (k:q) (h:aA q->p:=by(intro zq9;(repeat1' (first|(refine zE ?_;first|refine PT ?_|(refine xT ?_;refine SC ?_)|refine SB ?_)));exact zq9.h)):p:=h ⟨k⟩
theorem WV {p q:Prop} (k:q) (h:aA q->p:=by(intro zq9;(repeat1' (first|(refine zE ?_;first|refine PT ?_|(refine xT ?_;refine SC ?_)|((fail_if_success refine yZ ?_);refine SB ?_))));exact zq9.h)):p:=h ⟨k⟩
theorem WY {p q:Prop} (k:q) (h:aA q->p:=by(intro zq9;(repeat1' (first|(refine zE ?_;first|refine PT ?_|(refine xT ?_;refine SC ?_)|((fail_if_success refine yZ ?_);refine SB ?_))|refine xM ?_|refine xB ?_|refine yV ?_|refine xC ?_));exact zq9.h)):p:=h ⟨k⟩
theorem WT {p q:Prop} (k:q) (h:aA q->p:=by(intro zq9;(repeat1' (first|(refine zE ?_;first|refine PT ?_|(refine xT ?_;refine SC ?_)|((fail_if_success refine dE ?_);refine SB ?_))|refine xM ?_|refine xB ?_|refine yV ?_|refine xC ?_));exact zq9.h)):p:=h ⟨k⟩
theorem SG {p q:Prop} (k:q) (h:aA q->p:=by(intro zq9;refine zE ?_;refine bK ?_;((refine fJ rfl rfl (λzh9=>?_) (λzh9=>?_))<;>(try simp only[qT,zYx,zY9,zZ7,yAy,yB5,yBc,zZw,yAb,yC8,yC7,yB3]at zh9));(all_goals (repeat revert zh9));first|done|(exact zq9.h;done)|(exact zq9.h.1;exact zq9.h.2;done)|(exact zq9.h.1;exact zq9.h.2.1;exact zq9.h.2.2;done)|(exact zq9.h.1;exact zq9.h.2.1;exact zq9.h.2.2.1;exact zq9.h.2.2.2;done)|(exact zq9.h.1;exact zq9.h.2.1;exact zq9.h.2.2.1;exact zq9.h.2.2.2.1;exact zq9.h.2.2.2.2;done)|(exact zq9.h.1;exact zq9.h.2.1;exact zq9.h.2.2.1;exact zq9.h.2.2.2.1;exact zq9.h.2.2.2.2.1;exact zq9.h.2.2.2.2.2;done))):p:=h ⟨k⟩
theorem SK {p q:Prop} (k:q) (h:aA q->p:=by(intro zq9;((refine xF rfl (λzh9=>?_) (λzh9=>?_))<;>(try simp only[qT,zYx,zY9,zZ7,yAy,yB5,yBc,zZw,yAb,yC8,yC7,yB3]at zh9));(all_goals (repeat revert zh9));first|done|(exact zq9.h;done)|(exact zq9.h.1;exact zq9.h.2;done)|(exact zq9.h.1;exact zq9.h.2.1;exact zq9.h.2.2;done)|(exact zq9.h.1;exact zq9.h.2.1;exact zq9.h.2.2.1;exact zq9.h.2.2.2;done)|(exact zq9.h.1;exact zq9.h.2.1;exact zq9.h.2.2.1;exact zq9.h.2.2.2.1;exact zq9.h.2.2.2.2;done)|(exact zq9.h.1;exact zq9.h.2.1;exact zq9.h.2.2.1;exact zq9.h.2.2.2.1;exact zq9.h.2.2.2.2.1;exact zq9.h.2.2.2.2.2;done))):p:=h ⟨k⟩
theorem SM {p q:Prop} (k:q) (h:aA q->p:=by(intro zq9;((refine gT ?_;refine zBz tok rfl rfl rfl rfl rfl rfl rfl rfl rfl rfl rfl rfl rfl (by omega) (by omega) rfl rfl rfl ?_));exact zq9.h)):p:=h ⟨k⟩
theorem SL {p q:Prop} (k:q) (h:aA q->p:=by(intro zq9;(first|(refine yZ ?_;refine kH tok rfl rfl ?_)|(refine yW ?_;refine LU tok rfl rfl rfl rfl rfl rfl (by first|(intro y hy;cases hy;rfl)|exact yY _ _ (λ_=>rfl)) rfl rfl rfl (by first|omega|(simp;done)|(simp;omega)) rfl ?_));exact zq9.h)):p:=h ⟨k⟩
theorem SR {p q:Prop} (k:q) (h:aA q->p:=by(intro zq9;(first|refine xM ?_|refine xB ?_|refine wU rfl ?_|refine zV rfl ?_|refine zQ rfl ?_|refine yV ?_|refine yQ ?_|refine xC ?_|refine yN ?_);exact zq9.h)):p:=h ⟨k⟩
theorem SX {p q:Prop} (k:q) (h:aA q->p:=by(intro zq9;(first|refine xM ?_|refine xB ?_|refine zV rfl ?_|refine zQ rfl ?_|refine yV ?_|refine yQ ?_|refine xC ?_);exact zq9.h)):p:=h ⟨k⟩
theorem SN {p q:Prop} (k:q) (h:aA q->p:=by(intro zq9;(first|refine xM ?_|refine xB ?_|refine wU rfl ?_|refine zV rfl ?_|refine zQ rfl ?_|refine yV ?_|refine xC ?_|refine yN ?_);exact zq9.h)):p:=h ⟨k⟩
theorem SQ {p q:Prop} (k:q) (h:aA q->p:=by(intro zq9;(first|refine xM ?_|refine xB ?_|refine wU rfl ?_|refine yV ?_|refine yQ ?_|refine xC ?_);exact zq9.h)):p:=h ⟨k⟩
theorem SV {p q:Prop} (k:q) (h:aA q->p:=by(intro zq9;(first|refine xM ?_|refine xB ?_|refine wU rfl ?_|refine zV rfl ?_|refine zQ rfl ?_|refine yV ?_|refine yQ ?_|refine xC ?_);exact zq9.h)):p:=h ⟨k⟩
structure One (a:Prop):Prop where
 x:a
structure Two (a b:Prop):Prop where
 x:a
 y:b
theorem wE {a:Prop} (x:a):One a:=⟨x⟩
theorem xR {a b:Prop} (x:a) (y:b):Two a b:=⟨x,y⟩
theorem YG {p a b:Prop} (k:Two a b) (h:a->b->p:=by(intro zx8 zy8;refine zE ?_;refine bK ?_;((refine fJ rfl rfl (λzh9=>?_) (λzh9=>?_))<;>(try simp only[qT,zYx,zY9,zZ7,yAy,yB5,yBc,zZw,yAb,yC8,yC7,yB3]at zh9));(all_goals (repeat revert zh9));exact zx8;exact zy8)):p:=h k.x k.y
theorem YG1 {p a:Prop} (k:One a) (h:a->p:=by(intro zx8;refine zE ?_;refine bK ?_;((refine fJ rfl rfl (λzh9=>?_) (λzh9=>?_))<;>(try simp only[qT,zYx,zY9,zZ7,yAy,yB5,yBc,zZw,yAb,yC8,yC7,yB3]at zh9));(all_goals (repeat revert zh9));exact zx8)):p:=h k.x
theorem YK {p a b:Prop} (k:Two a b) (h:a->b->p:=by(intro zx8 zy8;((refine xF rfl (λzh9=>?_) (λzh9=>?_))<;>(try simp only[qT,zYx,zY9,zZ7,yAy,yB5,yBc,zZw,yAb,yC8,yC7,yB3]at zh9));(all_goals (repeat revert zh9));exact zx8;exact zy8)):p:=h k.x k.y
theorem YK1 {p a:Prop} (k:One a) (h:a->p:=by(intro zx8;((refine xF rfl (λzh9=>?_) (λzh9=>?_))<;>(try simp only[qT,zYx,zY9,zZ7,yAy,yB5,yBc,zZw,yAb,yC8,yC7,yB3]at zh9));(all_goals (repeat revert zh9));exact zx8)):p:=h k.x
theorem YG0 {p a b:Prop} (k:Two a b) (h:a->b->p:=by(intro zx8 zy8;refine zE ?_;refine bK ?_;refine fJ rfl rfl (λzh9=>?_) (λzh9=>?_);(all_goals (repeat revert zh9));exact zx8;exact zy8)):p:=h k.x k.y
theorem YK0 {p a b:Prop} (k:Two a b) (h:a->b->p:=by(intro zx8 zy8;refine xF rfl (λzh9=>?_) (λzh9=>?_);(all_goals (repeat revert zh9));exact zx8;exact zy8)):p:=h k.x k.y
theorem qS {p q:Prop} (k:q) (h:aA q->p:=by(intro zq9;(first|refine WZ ?_|refine YG ?_|refine YG1 ?_|refine SR ?_|refine YK ?_|refine YK1 ?_);exact zq9.h)):p:=h ⟨k⟩
theorem WZX {p q:Prop} (k:q) (h:aA q->p:=by(intro zq9;(first|refine WZ ?_|refine YG ?_|refine YG1 ?_|refine SX ?_);exact zq9.h)):p:=h ⟨k⟩
theorem AX {p q:Prop} (k:q) (h:aA q->p:=by(intro zq9;(first|refine WZ ?_|refine YG ?_|refine YG1 ?_|refine SN ?_|refine YK ?_|refine YK1 ?_);exact zq9.h)):p:=h ⟨k⟩
theorem WZB {p q:Prop} (k:q) (h:aA q->p:=by(intro zq9;(first|refine WZ ?_|refine YG ?_|refine YG1 ?_|refine SQ ?_);exact zq9.h)):p:=h ⟨k⟩
theorem WZC {p q:Prop} (k:q) (h:aA q->p:=by(intro zq9;(first|refine WZ ?_|refine YG ?_|refine YG1 ?_|refine SV ?_|refine YK ?_|refine YK1 ?_);exact zq9.h)):p:=h ⟨k⟩
theorem aT {p q:Prop} (k:q) (h:aA q->p:=by(intro zq9;(first|refine WY ?_|refine YG ?_|refine YG1 ?_|refine SR ?_|refine YK ?_|refine YK1 ?_);exact zq9.h)):p:=h ⟨k⟩
theorem WYX {p q:Prop} (k:q) (h:aA q->p:=by(intro zq9;(first|refine WY ?_|refine YG ?_|refine YG1 ?_|refine SX ?_);exact zq9.h)):p:=h ⟨k⟩
theorem WTR {p q:Prop} (k:q) (h:aA q->p:=by(intro zq9;(first|refine WT ?_|refine YG ?_|refine YG1 ?_|refine SR ?_|refine YK ?_|refine YK1 ?_);exact zq9.h)):p:=h ⟨k⟩
theorem ZY {p q:Prop} (k:q) (h:aA q->p:=by(intro zq9;(first|refine WZ ?_|refine YG0 ?_|refine SR ?_|refine YK0 ?_);exact zq9.h)):p:=h ⟨k⟩
theorem WW {p q:Prop} (k:q) (h:aA q->p:=by(intro zq9;(repeat' (first|refine WZ ?_|refine SG (I2 (λzh8=>?_) (λzh8=>?_))|refine SG (λzh8=>?_)|(refine zE ?_;refine SM ?_)|refine SR ?_|refine SK (I2 (λzh8=>?_) (λzh8=>?_))|refine SK (λzh8=>?_)|fail));(all_goals (repeat revert zh8));first|done|(exact zq9.h;done)|(exact zq9.h.1;exact zq9.h.2;done)|(exact zq9.h.1;exact zq9.h.2.1;exact zq9.h.2.2;done)|(exact zq9.h.1;exact zq9.h.2.1;exact zq9.h.2.2.1;exact zq9.h.2.2.2;done)|(exact zq9.h.1;exact zq9.h.2.1;exact zq9.h.2.2.1;exact zq9.h.2.2.2.1;exact zq9.h.2.2.2.2;done)|(exact zq9.h.1;exact zq9.h.2.1;exact zq9.h.2.2.1;exact zq9.h.2.2.2.1;exact zq9.h.2.2.2.2.1;exact zq9.h.2.2.2.2.2;done))):p:=h ⟨k⟩
theorem WL {p q:Prop} (k:q) (h:aA q->p:=by(intro zq9;(repeat' (first|refine WY ?_|refine SG (I2 (λzh8=>?_) (λzh8=>?_))|refine SG (λzh8=>?_)|(refine zE ?_;first|refine SL ?_|refine SM ?_)|refine SB ?_|refine SR ?_|refine SK (I2 (λzh8=>?_) (λzh8=>?_))|refine SK (λzh8=>?_)|fail));(all_goals (repeat revert zh8));first|done|(exact zq9.h;done)|(exact zq9.h.1;exact zq9.h.2;done)|(exact zq9.h.1;exact zq9.h.2.1;exact zq9.h.2.2;done)|(exact zq9.h.1;exact zq9.h.2.1;exact zq9.h.2.2.1;exact zq9.h.2.2.2;done)|(exact zq9.h.1;exact zq9.h.2.1;exact zq9.h.2.2.1;exact zq9.h.2.2.2.1;exact zq9.h.2.2.2.2;done)|(exact zq9.h.1;exact zq9.h.2.1;exact zq9.h.2.2.1;exact zq9.h.2.2.2.1;exact zq9.h.2.2.2.2.1;exact zq9.h.2.2.2.2.2;done))):p:=h ⟨k⟩
theorem WD {p q:Prop} (k:q) (h:aA q->p:=by(intro zq9;(repeat' (first|refine WZ ?_|refine SG (I2 (λzh8=>?_) (λzh8=>?_))|refine SG (λzh8=>?_)|(refine zE ?_;refine SM ?_)|refine SX ?_|fail));(all_goals (repeat revert zh8));first|done|(exact zq9.h;done)|(exact zq9.h.1;exact zq9.h.2;done)|(exact zq9.h.1;exact zq9.h.2.1;exact zq9.h.2.2;done)|(exact zq9.h.1;exact zq9.h.2.1;exact zq9.h.2.2.1;exact zq9.h.2.2.2;done)|(exact zq9.h.1;exact zq9.h.2.1;exact zq9.h.2.2.1;exact zq9.h.2.2.2.1;exact zq9.h.2.2.2.2;done)|(exact zq9.h.1;exact zq9.h.2.1;exact zq9.h.2.2.1;exact zq9.h.2.2.2.1;exact zq9.h.2.2.2.2.1;exact zq9.h.2.2.2.2.2;done))):p:=h ⟨k⟩
theorem eN {f:Nat} {fn:Func} {body:Code} {args:List AV} {h0:List (Nat×xP)} {r:AV} {h1:List (Nat×xP)} (hf:prog.funcs[f]? =some fn) (able:cY prog f) (h:∀F:Fr (yC h0),F.ro=none/\F.it=false->uI prog F fn.ntmps body ⟨VN 0 args,h0⟩ (Fin TT fn.results.toList h0 r h1)) (hb:fn.body=some body:=by exact rfl) (hlen:Nat.ble args.length fn.ntmps=true:=by exact rfl) (hnd:uC h0=true:=by exact rfl) (hnd1:uC h1=true:=by exact rfl) (hgs:Nat.ble fn.ntmps GS=true:=by rfl):yH prog f args h0 r h1:=XT tok hf hb able hlen hnd hnd1 h hgs
theorem zL {TT:List TI} {rs:List ResultVar} {h0:List (Nat×xP)} {r:AV} {h1:List (Nat×xP)} {st:St} {vs:List AV} (h:MN TT st rs=some vs:=by exact rfl) (hK:(yC h0).all (([]:List Nat).contains ·)=true:=by exact rfl) (hr:XU (wQ [] (zC st.h) (FX vs))=r:=by exact rfl) (hh:wV [] (zC st.h)=h1:=by exact rfl):Fin TT rs h0 r h1 .ret st:=zI [] h hK hr hh
structure zT2 (A B:Prop):Prop where
  mk::(a1:A) (b1:B)
theorem vD {A B:Prop} (a1:A) (b1:B):zT2 A B:=⟨a1,b1⟩
theorem ze2 {A B p:Prop} (z:zT2 A B) (h:A->B->p):p:=h z.a1 z.b1
structure zT3 (A B C:Prop):Prop where
  mk::(a1:A) (b1:B) (c1:C)
theorem gK {A B C:Prop} (a1:A) (b1:B) (c1:C):zT3 A B C:=⟨a1,b1,c1⟩
theorem ze3 {A B C p:Prop} (z:zT3 A B C) (h:A->B->C->p):p:=h z.a1 z.b1 z.c1
structure zT4 (A B C D:Prop):Prop where
  mk::(a1:A) (b1:B) (c1:C) (d1:D)
theorem aG {A B C D:Prop} (a1:A) (b1:B) (c1:C) (d1:D):zT4 A B C D:=⟨a1,b1,c1,d1⟩
theorem ze4 {A B C D p:Prop} (z:zT4 A B C D) (h:A->B->C->D->p):p:=h z.a1 z.b1 z.c1 z.d1
structure zT5 (A B C D E:Prop):Prop where
  mk::(a1:A) (b1:B) (c1:C) (d1:D) (e1:E)
theorem zt5 {A B C D E:Prop} (a1:A) (b1:B) (c1:C) (d1:D) (e1:E):zT5 A B C D E:=⟨a1,b1,c1,d1,e1⟩
theorem ze5 {A B C D E p:Prop} (z:zT5 A B C D E) (h:A->B->C->D->E->p):p:=h z.a1 z.b1 z.c1 z.d1 z.e1
structure zT6 (A B C D E F:Prop):Prop where
  mk::(a1:A) (b1:B) (c1:C) (d1:D) (e1:E) (f1:F)
theorem zt6 {A B C D E F:Prop} (a1:A) (b1:B) (c1:C) (d1:D) (e1:E) (f1:F):zT6 A B C D E F:=⟨a1,b1,c1,d1,e1,f1⟩
theorem ze6 {A B C D E F p:Prop} (z:zT6 A B C D E F) (h:A->B->C->D->E->F->p):p:=h z.a1 z.b1 z.c1 z.d1 z.e1 z.f1
structure zT7 (A B C D E F G:Prop):Prop where
  mk::(a1:A) (b1:B) (c1:C) (d1:D) (e1:E) (f1:F) (g1:G)
theorem zt7 {A B C D E F G:Prop} (a1:A) (b1:B) (c1:C) (d1:D) (e1:E) (f1:F) (g1:G):zT7 A B C D E F G:=⟨a1,b1,c1,d1,e1,f1,g1⟩
theorem ze7 {A B C D E F G p:Prop} (z:zT7 A B C D E F G) (h:A->B->C->D->E->F->G->p):p:=h z.a1 z.b1 z.c1 z.d1 z.e1 z.f1 z.g1
structure zT8 (A B C D E F G H:Prop):Prop where
  mk::(a1:A) (b1:B) (c1:C) (d1:D) (e1:E) (f1:F) (g1:G) (h1:H)
theorem zt8 {A B C D E F G H:Prop} (a1:A) (b1:B) (c1:C) (d1:D) (e1:E) (f1:F) (g1:G) (h1:H):zT8 A B C D E F G H:=⟨a1,b1,c1,d1,e1,f1,g1,h1⟩
theorem ze8 {A B C D E F G H p:Prop} (z:zT8 A B C D E F G H) (h:A->B->C->D->E->F->G->H->p):p:=h z.a1 z.b1 z.c1 z.d1 z.e1 z.f1 z.g1 z.h1
structure zWf (A B C D E F G H I J K L M:Prop):Prop where
  mk::(a1:A) (b1:B) (c1:C) (d1:D) (e1:E) (f1:F) (g1:G) (h1:H) (i1:I) (j1:J) (k1:K) (l1:L) (m1:M)
theorem zX3 {A B C D E F G H I J K L M:Prop} (a1:A) (b1:B) (c1:C) (d1:D) (e1:E) (f1:F) (g1:G) (h1:H) (i1:I) (j1:J) (k1:K) (l1:L) (m1:M):zWf A B C D E F G H I J K L M:=⟨a1,b1,c1,d1,e1,f1,g1,h1,i1,j1,k1,l1,m1⟩
theorem zS4 {A B C D E F G H I J K L M p:Prop} (z:zWf A B C D E F G H I J K L M) (h:A->B->C->D->E->F->G->H->I->J->K->L->M->p):p:=h z.a1 z.b1 z.c1 z.d1 z.e1 z.f1 z.g1 z.h1 z.i1 z.j1 z.k1 z.l1 z.m1
structure zWg (A B C D E F G H I J K L M N:Prop):Prop where
  mk::(a1:A) (b1:B) (c1:C) (d1:D) (e1:E) (f1:F) (g1:G) (h1:H) (i1:I) (j1:J) (k1:K) (l1:L) (m1:M) (n1:N)
theorem zX4 {A B C D E F G H I J K L M N:Prop} (a1:A) (b1:B) (c1:C) (d1:D) (e1:E) (f1:F) (g1:G) (h1:H) (i1:I) (j1:J) (k1:K) (l1:L) (m1:M) (n1:N):zWg A B C D E F G H I J K L M N:=⟨a1,b1,c1,d1,e1,f1,g1,h1,i1,j1,k1,l1,m1,n1⟩
theorem zS5 {A B C D E F G H I J K L M N p:Prop} (z:zWg A B C D E F G H I J K L M N) (h:A->B->C->D->E->F->G->H->I->J->K->L->M->N->p):p:=h z.a1 z.b1 z.c1 z.d1 z.e1 z.f1 z.g1 z.h1 z.i1 z.j1 z.k1 z.l1 z.m1 z.n1
theorem xA {Y p q:Prop} (zc0:Y) (k:q) (h:Y->aA q->p:=by(intro zc0 zq9;(first|refine ze2 zc0 (λzc1 zc2=>?_)|refine ze3 zc0 (λzc1 zc2 zc3=>?_)|refine ze4 zc0 (λzc1 zc2 zc3 zc4=>?_)|refine ze5 zc0 (λzc1 zc2 zc3 zc4 zc5=>?_)|refine ze6 zc0 (λzc1 zc2 zc3 zc4 zc5 zc6=>?_)|refine ze7 zc0 (λzc1 zc2 zc3 zc4 zc5 zc6 zc7=>?_)|refine ze8 zc0 (λzc1 zc2 zc3 zc4 zc5 zc6 zc7 zc8=>?_)|refine zS4 zc0 (λzc1 zc2 zc3 zc4 zc5 zc6 zc7 zc8 zc9 zc10 zc11 zc12 zc13=>?_)|refine zS5 zc0 (λzc1 zc2 zc3 zc4 zc5 zc6 zc7 zc8 zc9 zc10 zc11 zc12 zc13 zc14=>?_));(repeat' (first|refine WZ ?_|refine SG (I2 (λzh8=>?_) (λzh8=>?_))|refine SG (λzh8=>?_)|(refine zE ?_;refine SM ?_)|refine SR ?_|refine SK (I2 (λzh8=>?_) (λzh8=>?_))|refine SK (λzh8=>?_)|fail));(all_goals (repeat revert zh8));first|done|(exact zq9.h;done)|(exact zq9.h.1;exact zq9.h.2;done)|(exact zq9.h.1;exact zq9.h.2.1;exact zq9.h.2.2;done)|(exact zq9.h.1;exact zq9.h.2.1;exact zq9.h.2.2.1;exact zq9.h.2.2.2;done)|(exact zq9.h.1;exact zq9.h.2.1;exact zq9.h.2.2.1;exact zq9.h.2.2.2.1;exact zq9.h.2.2.2.2;done)|(exact zq9.h.1;exact zq9.h.2.1;exact zq9.h.2.2.1;exact zq9.h.2.2.2.1;exact zq9.h.2.2.2.2.1;exact zq9.h.2.2.2.2.2;done))):p:=h zc0 ⟨k⟩
theorem zW {Y p q:Prop} (zc0:Y) (k:q) (h:Y->aA q->p:=by(intro zc1 zq9;(repeat' (first|refine WZ ?_|refine SG (I2 (λzh8=>?_) (λzh8=>?_))|refine SG (λzh8=>?_)|(refine zE ?_;refine SM ?_)|refine SR ?_|refine SK (I2 (λzh8=>?_) (λzh8=>?_))|refine SK (λzh8=>?_)|fail));(all_goals (repeat revert zh8));first|done|(exact zq9.h;done)|(exact zq9.h.1;exact zq9.h.2;done)|(exact zq9.h.1;exact zq9.h.2.1;exact zq9.h.2.2;done)|(exact zq9.h.1;exact zq9.h.2.1;exact zq9.h.2.2.1;exact zq9.h.2.2.2;done)|(exact zq9.h.1;exact zq9.h.2.1;exact zq9.h.2.2.1;exact zq9.h.2.2.2.1;exact zq9.h.2.2.2.2;done)|(exact zq9.h.1;exact zq9.h.2.1;exact zq9.h.2.2.1;exact zq9.h.2.2.2.1;exact zq9.h.2.2.2.2.1;exact zq9.h.2.2.2.2.2;done))):p:=h zc0 ⟨k⟩
theorem MM {Y p q:Prop} (zc0:Y) (k:q) (h:Y->aA q->p:=by(intro zc0 zq9;(first|refine ze2 zc0 (λzc1 zc2=>?_)|refine ze3 zc0 (λzc1 zc2 zc3=>?_)|refine ze4 zc0 (λzc1 zc2 zc3 zc4=>?_)|refine ze5 zc0 (λzc1 zc2 zc3 zc4 zc5=>?_)|refine ze6 zc0 (λzc1 zc2 zc3 zc4 zc5 zc6=>?_)|refine ze7 zc0 (λzc1 zc2 zc3 zc4 zc5 zc6 zc7=>?_)|refine ze8 zc0 (λzc1 zc2 zc3 zc4 zc5 zc6 zc7 zc8=>?_)|refine zS4 zc0 (λzc1 zc2 zc3 zc4 zc5 zc6 zc7 zc8 zc9 zc10 zc11 zc12 zc13=>?_)|refine zS5 zc0 (λzc1 zc2 zc3 zc4 zc5 zc6 zc7 zc8 zc9 zc10 zc11 zc12 zc13 zc14=>?_));(repeat' (first|refine WY ?_|refine SG (I2 (λzh8=>?_) (λzh8=>?_))|refine SG (λzh8=>?_)|(refine zE ?_;first|refine SL ?_|refine SM ?_)|refine SB ?_|refine SR ?_|refine SK (I2 (λzh8=>?_) (λzh8=>?_))|refine SK (λzh8=>?_)|fail));(all_goals (repeat revert zh8));first|done|(exact zq9.h;done)|(exact zq9.h.1;exact zq9.h.2;done)|(exact zq9.h.1;exact zq9.h.2.1;exact zq9.h.2.2;done)|(exact zq9.h.1;exact zq9.h.2.1;exact zq9.h.2.2.1;exact zq9.h.2.2.2;done)|(exact zq9.h.1;exact zq9.h.2.1;exact zq9.h.2.2.1;exact zq9.h.2.2.2.1;exact zq9.h.2.2.2.2;done)|(exact zq9.h.1;exact zq9.h.2.1;exact zq9.h.2.2.1;exact zq9.h.2.2.2.1;exact zq9.h.2.2.2.2.1;exact zq9.h.2.2.2.2.2;done))):p:=h zc0 ⟨k⟩
theorem WLo {Y p q:Prop} (zc0:Y) (k:q) (h:Y->aA q->p:=by(intro zc1 zq9;(repeat' (first|refine WY ?_|refine SG (I2 (λzh8=>?_) (λzh8=>?_))|refine SG (λzh8=>?_)|(refine zE ?_;first|refine SL ?_|refine SM ?_)|refine SB ?_|refine SR ?_|refine SK (I2 (λzh8=>?_) (λzh8=>?_))|refine SK (λzh8=>?_)|fail));(all_goals (repeat revert zh8));first|done|(exact zq9.h;done)|(exact zq9.h.1;exact zq9.h.2;done)|(exact zq9.h.1;exact zq9.h.2.1;exact zq9.h.2.2;done)|(exact zq9.h.1;exact zq9.h.2.1;exact zq9.h.2.2.1;exact zq9.h.2.2.2;done)|(exact zq9.h.1;exact zq9.h.2.1;exact zq9.h.2.2.1;exact zq9.h.2.2.2.1;exact zq9.h.2.2.2.2;done)|(exact zq9.h.1;exact zq9.h.2.1;exact zq9.h.2.2.1;exact zq9.h.2.2.2.1;exact zq9.h.2.2.2.2.1;exact zq9.h.2.2.2.2.2;done))):p:=h zc0 ⟨k⟩
theorem WDc {Y p q:Prop} (zc0:Y) (k:q) (h:Y->aA q->p:=by(intro zc0 zq9;(first|refine ze2 zc0 (λzc1 zc2=>?_)|refine ze3 zc0 (λzc1 zc2 zc3=>?_)|refine ze4 zc0 (λzc1 zc2 zc3 zc4=>?_)|refine ze5 zc0 (λzc1 zc2 zc3 zc4 zc5=>?_)|refine ze6 zc0 (λzc1 zc2 zc3 zc4 zc5 zc6=>?_)|refine ze7 zc0 (λzc1 zc2 zc3 zc4 zc5 zc6 zc7=>?_)|refine ze8 zc0 (λzc1 zc2 zc3 zc4 zc5 zc6 zc7 zc8=>?_)|refine zS4 zc0 (λzc1 zc2 zc3 zc4 zc5 zc6 zc7 zc8 zc9 zc10 zc11 zc12 zc13=>?_)|refine zS5 zc0 (λzc1 zc2 zc3 zc4 zc5 zc6 zc7 zc8 zc9 zc10 zc11 zc12 zc13 zc14=>?_));(repeat' (first|refine WZ ?_|refine SG (I2 (λzh8=>?_) (λzh8=>?_))|refine SG (λzh8=>?_)|(refine zE ?_;refine SM ?_)|refine SX ?_|fail));(all_goals (repeat revert zh8));first|done|(exact zq9.h;done)|(exact zq9.h.1;exact zq9.h.2;done)|(exact zq9.h.1;exact zq9.h.2.1;exact zq9.h.2.2;done)|(exact zq9.h.1;exact zq9.h.2.1;exact zq9.h.2.2.1;exact zq9.h.2.2.2;done)|(exact zq9.h.1;exact zq9.h.2.1;exact zq9.h.2.2.1;exact zq9.h.2.2.2.1;exact zq9.h.2.2.2.2;done)|(exact zq9.h.1;exact zq9.h.2.1;exact zq9.h.2.2.1;exact zq9.h.2.2.2.1;exact zq9.h.2.2.2.2.1;exact zq9.h.2.2.2.2.2;done))):p:=h zc0 ⟨k⟩
theorem WDo {Y p q:Prop} (zc0:Y) (k:q) (h:Y->aA q->p:=by(intro zc1 zq9;(repeat' (first|refine WZ ?_|refine SG (I2 (λzh8=>?_) (λzh8=>?_))|refine SG (λzh8=>?_)|(refine zE ?_;refine SM ?_)|refine SX ?_|fail));(all_goals (repeat revert zh8));first|done|(exact zq9.h;done)|(exact zq9.h.1;exact zq9.h.2;done)|(exact zq9.h.1;exact zq9.h.2.1;exact zq9.h.2.2;done)|(exact zq9.h.1;exact zq9.h.2.1;exact zq9.h.2.2.1;exact zq9.h.2.2.2;done)|(exact zq9.h.1;exact zq9.h.2.1;exact zq9.h.2.2.1;exact zq9.h.2.2.2.1;exact zq9.h.2.2.2.2;done)|(exact zq9.h.1;exact zq9.h.2.1;exact zq9.h.2.2.1;exact zq9.h.2.2.2.1;exact zq9.h.2.2.2.2.1;exact zq9.h.2.2.2.2.2;done))):p:=h zc0 ⟨k⟩
theorem eM {f:Nat} {fn:Func} {body:Code} {args:List AV} {h0:List (Nat×xP)} {r:AV} {h1:List (Nat×xP)} (able:cY prog f) (h:∀F:Fr (yC h0),F.ro=none/\F.it=false->uI prog F fn.ntmps body ⟨VN 0 args,h0⟩ (Fin TT fn.results.toList h0 r h1)) (hf:prog.funcs[f]? =some fn:=by exact rfl) (hb:fn.body=some body:=by exact rfl) (hlen:Nat.ble args.length fn.ntmps=true:=by exact rfl) (hnd:uC h0=true:=by exact rfl) (hnd1:uC h1=true:=by exact rfl) (hgs:Nat.ble fn.ntmps GS=true:=by rfl):yH prog f args h0 r h1:=eN hf able h hb hlen hnd hnd1 hgs
abbrev zO:=yH prog
theorem zFB {p:Prop} (h:p:=by(apply uE;(exact zL);simp only[qT,zY9,zYx,zZw,yAb,zZ7,yAy,yB5];omega)):p:=h
theorem zXO {p:Prop} (h:p:=by(exfalso;omega)):p:=h
theorem zB {p:Prop} (h:p:=by omega):p:=h
def iA (n:Int):AV:= .s (.int .i64 n)
def yA (n:Int):AV:= .s (.int .u8 n)
def bA (b:Bool):AV:= .s (.bool b)
def zD {α:Type} (f:α->AV) (l:List α):AV:= .sl false (l.map f)
structure Cl where
 ag:Int
 id:Int
 ph:Int
 k:Int
 si:Int
structure Sv where
 ph:Int
 gr:Int
 en:List Int
structure Ph where
 ring:Int
 group:Int
 ming:Int
 maxg:Int
 yel:Int
 red:Int
 walk:Int
 clear:Int
structure Jn where
 ph:List Ph
 cf:List Int
 st:Int
structure Ag where
 sec:List Int
 rights:Int
 cls:Int
 lim:List Int
 req:Int
 ses:Int
 rate:Int
 burst:Int
structure Cf where
 js:List Jn
 ags:List Ag
 per:Int
 cap:Int
 hold:Int
 lock:Int
structure Tk where
 used:Bool
 sec:List Int
 par:Int
 rights:Int
 cls:Int
 til:Int
structure Vh where
 id:Int
 cls:Int
structure Bk where
 level:Int
 rate:Int
 burst:Int
structure Rg where
 num:Int
 ag:Ag
 tk:List Tk
 vh:List Vh
 bk:Bk
structure Ms where
 kind:Int
 tok:List Int
 args:List Int
 data:List Int
def dR (c:Cl):AV:= .agg [iA c.ag,iA c.id,iA c.ph,iA c.k,iA c.si]
def vC (s:Sv):AV:= .agg [iA s.ph,iA s.gr,zD iA s.en]
def vE (p:Ph):AV:= .agg [iA p.ring,iA p.group,iA p.ming,iA p.maxg,iA p.yel,iA p.red,iA p.walk,iA p.clear]
def wC (j:Jn):AV:= .agg [zD vE j.ph,zD iA j.cf,iA j.st]
def wN (a:Ag):AV:= .agg [zD yA a.sec,iA a.rights,iA a.cls,zD iA a.lim,iA a.req,iA a.ses,iA a.rate,iA a.burst]
def wJ (c:Cf):AV:= .agg [zD wC c.js,zD wN c.ags,iA c.per,iA c.cap,iA c.hold,iA c.lock]
def xE (t:Tk):AV:= .agg [bA t.used,zD yA t.sec,iA t.par,iA t.rights,iA t.cls,iA t.til]
def vQ (v:Vh):AV:= .agg [iA v.id,iA v.cls]
def bkA (b:Bk):AV:= .agg [iA b.level,iA b.rate,iA b.burst]
def qG (r:Rg):AV:= .agg [iA r.num,zD yA r.ag.sec,iA r.ag.rights,iA r.ag.cls,zD iA r.ag.lim,iA r.ag.req,iA r.ag.ses,iA r.ag.rate,iA r.ag.burst,zD xE r.tk,zD vQ r.vh,iA r.bk.level,iA r.bk.rate,iA r.bk.burst]
def yB (m:Ms):AV:= .agg [iA m.kind,zD yA m.tok,zD iA m.args,zD yA m.data]
instance:Inhabited Tk:=⟨⟨false,[],-1,0,0,0⟩⟩
instance:Inhabited Vh:=⟨⟨0,0⟩⟩
instance:Inhabited Cl:=⟨⟨0,0,0,0,0⟩⟩
instance:Inhabited Ph:=⟨⟨0,0,0,0,0,0,0,0⟩⟩
instance:Inhabited Jn:=⟨⟨[],[],0⟩⟩
instance:Inhabited Ag:=⟨⟨[],0,0,[],0,0,0,0⟩⟩
theorem uE {TT:List TI} {rs:List ResultVar} {h0 h1:List (Nat×xP)} {e:Exit} {st:St} {b b':Bool} (h:Fin TT rs h0 (bA b') h1 e st) (hb:b'=b):Fin TT rs h0 (bA b) h1 e st:=hb▸h
theorem zN {α:Type} [Inhabited α] (f:α->AV) (l:List α) (i:Nat) (h:i<l.length):(l.map f)[i]? =some (f (l.getD i default)):=by simp[List.getD,h]
theorem yP {α:Type} [Inhabited α] (f:α->AV) (l:List α) (i:Int) (h0:0<=i) (h:i<l.length):(l.map f)[i.toNat]? =some (f (l.getD i.toNat default)):=zN f l _ (by omega)
theorem zN4 (v n : Int) (h1 : 1 ≤ n) : -n < v.tmod n ∧ v.tmod n < n ∧ v % n=if v.tmod n<0 then v.tmod n+n else v.tmod n:=by
  have e0:=yB4 v (show n≠0 by omega);have e1:=yBu v (show 0<n by omega)
  have e2 : v.tmod n = if 0 ≤ v ∨ n ∣ v then v % n else v % n - n := by rw[Int.tmod_eq_emod];have:(n.natAbs:Int)=n:=by omega
                                                                        split<;>omega
  rw[e2];split
  · refine⟨by omega,by omega,?_⟩;rw[zYo (by omega)]
  · rename_i hd;have:v % n≠0:=λh=>hd (.inr (Int.dvd_of_emod_eq_zero h))
    refine⟨by omega,by omega,?_⟩;rw[zYp (by omega)];omega
theorem LJ (v n:Int) (h1:1<=n) (h2:n<=1099511627776):yH prog 16 [iA v,iA n] [] (iA (v % n)) []:=by
 obtain⟨b1,b2,e⟩:=zN4 v n h1;by_cases h:v.tmod n<0
 ·rw[e,zYp h]
  (refine eM call16 λF hF=>?_)
  (repeat' (first|refine ZY ?_|refine xR (λhc=>?_) (λhc=>?_)|fail))
  exact zL
 ·rw[e,zYo h]
  (refine eM call16 λF hF=>?_)
  (repeat' (first|refine ZY ?_|refine xR (λhc=>?_) (λhc=>?_)|fail))
  exact zL
structure Dk where
 l:List Int
 a:Nat
 h:a<=l.length
 hl:l.length<=9223372036854775807
def cG (d:Dk):xP:= .box [zD iA d.l,iA d.a]
def nx (d:Dk) (n:Int):Int:=if d.a<d.l.length then d.l.getD d.a 0 % n else 0
def ad (d:Dk):Dk:=if h:d.a<d.l.length then⟨d.l,d.a+1,h,d.hl⟩else d
theorem yD (d:Dk) (n:Int) (h1:1<=n):0<=nx d n/\nx d n<n:=by
 unfold nx;split
 ·exact⟨yB4 _ (by omega),yBu _ (by omega)⟩
 ·omega
theorem zQ5 (l:List Int) (hl:l.length<=9223372036854775807):yH prog 11 [zD iA l] [] (.ptr 1000 0 0) [(1000,cG ⟨l,0,zY4 _,hl⟩)]:=by
 (refine eM call11 λF hF=>?_)
 repeat' (first|refine wZ tok rfl rfl ?_|(first|refine xM ?_|refine xB ?_|refine wU rfl ?_|refine zV rfl ?_|refine zQ rfl ?_|refine xF rfl (λhc=>?_) (λhc=>?_)|refine yV ?_|refine yQ ?_|refine xC ?_|refine yN ?_)|refine uM ?_|refine uF (kZ (v:= .agg _) 1000 rfl rfl) rfl rfl rfl ?_)
 exact zJ [1000] rfl rfl rfl rfl
theorem yJ (d:Dk) (n:Int) (h1:1<=n) (h2:n<=1099511627776):yH prog 22 [.ptr 1000 0 0,iA n] [(1000,cG d)] (iA (nx d n)) [(1000,cG (ad d))]:=by
 have hl:(d.l.map iA).length=d.l.length:=by simp
 have hb:=d.hl;by_cases h:d.a<d.l.length
 ·have hy:=yP iA d.l ((d.a:Int)+1-1) (by omega) (by omega);rw[show nx d n=d.l.getD ((d.a:Int)+1-1).toNat 0 % n by unfold nx;rw[zYp h,show((d.a:Int)+1-1).toNat=d.a by omega]];rw[show ad d=⟨d.l,d.a+1,h,d.hl⟩ by unfold ad;rw[yEo h]]
  (refine eM call22 λF hF=>?_)
  (repeat' (first|refine ZY ?_|refine xR (λhc=>?_) (λhc=>?_)|(refine zE ?_;refine xT ?_;refine yF (zH (LJ _ _ h1 h2) rfl rfl rfl rfl rfl) rfl ?_)|fail))
  exact zJ [1000] rfl rfl rfl rfl
 ·rw[show nx d n=0 by unfold nx;rw[zYo h],show ad d=d by unfold ad;rw[dif_neg h]]
  (refine eM call22 λF hF=>?_)
  (repeat' (first|refine ZY ?_|refine xR (λhc=>?_) (λhc=>?_)|(refine zE ?_;refine xT ?_;refine yF (zH (LJ _ _ h1 h2) rfl rfl rfl rfl rfl) rfl ?_)|fail))
  exact zJ [1000] rfl rfl rfl rfl
theorem kX (d:Dk) (lo hi:Int) (h1:0<=lo) (h2:lo<=hi) (h3:hi<=1000000000):yH prog 37 [.ptr 1000 0 0,iA lo,iA hi] [(1000,cG d)] (iA (lo+nx d (hi-lo+1))) [(1000,cG (ad d))]:=by
 have hb:=yD d (hi-lo+1) (by omega)
 (refine eM call37 λF hF=>?_)
 (repeat' (first|refine ZY ?_|refine xR (λhc=>?_) (λhc=>?_)|(refine zE ?_;refine xT ?_;refine uF (zH (yJ d _ (by omega) (by omega)) rfl rfl rfl rfl rfl) rfl rfl rfl ?_)|fail))
 exact zJ [1000] rfl rfl rfl rfl
structure Lg where
 jn:Int
 ph:Int
 fr:Int
 to:Int
 sc:Int
structure Rq where
 id:Int
 vh:Int
 cls:Int
 til:Int
 legs:List Lg
instance:Inhabited Lg:=⟨⟨0,0,0,0,0⟩⟩
instance:Inhabited Rq:=⟨⟨0,0,0,0,[]⟩⟩
def xW (l:Lg):AV:= .agg [iA l.jn,iA l.ph,iA l.fr,iA l.to,iA l.sc]
def yL (r:Rq):AV:= .agg [iA r.id,iA r.vh,iA r.cls,iA r.til,zD xW r.legs]
def plB (j p:Int):Bool:=decide (0<=j/\j<4/\0<=p/\p<8)
def mwB (j p f t now:Int):Bool:=decide (0<=j/\j<4/\0<=p/\p<8/\0<=now/\now<=1073741824/\0<=f/\f<=t/\t<=600)
def mwF (j p f t now:Int):Lg:=if mwB j p f t now=true then⟨j,p,now+f,now+t,-1⟩else⟨0,0,0,0,0⟩
def JT (l:Lg):Bool:=decide (0<=l.jn/\l.jn<4/\0<=l.ph/\l.ph<8/\0<=l.fr/\l.fr<=l.to/\l.to<=2147483648/\ -1<=l.sc/\l.sc<=1073741824)
def liB (l:Lg) (now:Int):Bool:=decide (l.fr<=now/\now<=l.to)
def aU (l:Lg) (now:Int):Lg:=if liB l now=true then(if l.sc= -1 then⟨l.jn,l.ph,l.fr,l.to,now⟩else l)else⟨l.jn,l.ph,l.fr,l.to,-1⟩
theorem zBu (j p:Int):yH prog 289 [iA j,iA p] [] (bA (plB j p)) []:=by
 (cases hb:plB j p with|false=>((refine eM call289 λF hF=>?_);((refine WW (I4 (λhc hc hc=>?_) (λhc hc hc=>?_) (λhc hc=>?_) (λhc=>?_))));all_goals (first|exact zL|(simp only[plB,zY9]at hb;first|(exfalso;omega)|(apply uE;(exact zL);simp only[qT,zY9,zYx,zZw,yAb,zZ7,yAy,yB5];omega))))|true=>(simp only[plB,zYx]at hb;(refine eM call289 λF hF=>?_);((refine WW ?_));all_goals (first|exact zL|(exfalso;omega)|(apply uE;(exact zL);simp only[qT,zY9,zYx,zZw,yAb,zZ7,yAy,yB5];omega))))
theorem zBv (j p f t now:Int):yH prog 267 [iA j,iA p,iA f,iA t,iA now] [] (.tup [xW (mwF j p f t now),iA (if mwB j p f t now=true then 0 else 8)]) []:=by
 have c1:=zBu j p;unfold mwF
 cases hb:mwB j p f t now with
 | false=>
  rw[zYo zZb,zYo zZb];unfold mwB at hb;rw[zY9]at hb;unfold plB at c1;unfold xW;by_cases hp:0<=j/\j<4/\0<=p/\p<8
  ·rw[zYu hp]at c1
   (refine eM call267 λF hF=>?_)
   (have zc1:=c1;refine WW (I5 (λhc=>?_) (λhc hc=>?_) (λhc hc hc=>?_) (λhc hc hc hc=>?_) (λhc hc hc hc=>?_))<;>clear zc1)
   all_goals (first|exact zL|(exfalso;omega))
  ·rw[zYw hp]at c1
   (refine eM call267 λF hF=>?_)
   (have zc1:=c1;refine WW ?_;clear zc1)
   all_goals (first|exact zL|(exfalso;omega))
 |true=>
  rw[zYp rfl,zYp rfl];unfold mwB at hb;rw[zYx]at hb;unfold plB at c1;rw[zYu (by omega)]at c1;unfold xW
  (refine eM call267 λF hF=>?_)
  (have zc1:=c1;refine WW ?_;clear zc1)
  exact zL
theorem zG8 (l:Lg) (now:Int):yH prog 219 [xW l,iA now] [] (bA (liB l now)) []:=by
 (cases hb:liB l now with|false=>((refine eM call219 λF hF=>?_);((refine WW (I2 (λhc=>?_) (λhc=>?_))));all_goals (first|exact zL|(simp only[liB,zY9]at hb;first|(exfalso;omega)|(apply uE;(exact zL);simp only[qT,zY9,zYx,zZw,yAb,zZ7,yAy,yB5];omega))))|true=>(simp only[liB,zYx]at hb;(refine eM call219 λF hF=>?_);((refine WW ?_));all_goals (first|exact zL|(exfalso;omega)|(apply uE;(exact zL);simp only[qT,zY9,zYx,zZw,yAb,zZ7,yAy,yB5];omega))))
theorem gW (l:Lg) (now:Int):yH prog 194 [xW l,iA now] [] (xW (aU l now)) []:=by
 have c:=zG8 l now;unfold aU;generalize liB l now=b at*
 cases b with
 |false=>
  rw[zYo zZb];unfold xW at*
  (refine eM call194 λF hF=>?_)
  (have zc1:=c;refine WW ?_;clear zc1)
  exact zL
 | true=>
  rw[zYp rfl];by_cases h:l.sc= -1
  ·rw[zYp h];unfold xW at*
   (refine eM call194 λF hF=>?_)
   (have zc1:=c;refine WW ?_;clear zc1)
   exact zL
  ·rw[zYo h];unfold xW at*
   (refine eM call194 λF hF=>?_)
   (have zc1:=c;refine WW ?_;clear zc1)
   exact zL
theorem zG9 (l:Lg):yH prog 306 [xW l] [] (bA (JT l)) []:=by
 have c1:=zBu l.jn l.ph
 cases hb:JT l with
 | false=>
  unfold JT at hb;rw[zY9]at hb;unfold plB at c1;by_cases hp:0<=l.jn/\l.jn<4/\0<=l.ph/\l.ph<8
  ·rw[zYu hp]at c1
   (refine eM call306 λF hF=>?_)
   (have zc1:=c1;refine WW (I5 (λhc hc hc hc=>?_) (λhc hc hc hc=>?_) (λhc hc hc=>?_) (λhc hc=>?_) (λhc=>?_))<;>clear zc1)
   all_goals (first|exact zL|(exfalso;omega)|(apply uE;(exact zL);simp only[qT,zY9,zYx,zZw,yAb,zZ7,yAy,yB5];omega))
  ·rw[zYw hp]at c1
   (refine eM call306 λF hF=>?_)
   (have zc1:=c1;refine WW ?_;clear zc1)
   all_goals (first|exact zL|(exfalso;omega)|(apply uE;(exact zL);simp only[qT,zY9,zYx,zZw,yAb,zZ7,yAy,yB5];omega))
 |true=>
  unfold JT at hb;rw[zYx]at hb;unfold plB at c1;rw[zYu (by omega)]at c1
  (refine eM call306 λF hF=>?_)
  (have zc1:=c1;refine WW ?_;clear zc1)
  all_goals (first|exact zL|(exfalso;omega)|(apply uE;(exact zL);simp only[qT,zY9,zYx,zZw,yAb,zZ7,yAy,yB5];omega))
def fX:List Lg->List Lg->Bool
 |_,[]=>true
 |pre,x::post=>JT x&&(!(pre.any λy=>y.jn==x.jn)&&fX (pre++[x]) post)
def vgF (l:List Lg):Bool:=decide (1<=(l.length:Int)/\(l.length:Int)<=3)&&fX [] l
theorem zN5 {pre post:List Lg} {x:Lg} (h:JT x=false):fX pre (x::post)=false:=by simp[fX,h]
theorem zN6 {pre post:List Lg} {x y:Lg} (hy:y∈pre) (h:y.jn=x.jn):fX pre (x::post)=false:=by
 have:(pre.any λy=>y.jn==x.jn)=true:=yAd.2 ⟨y,hy,by simpa using h⟩;simp[fX,this]
theorem zEe {pre post:List Lg} {x:Lg} (h:JT x=true) (hn:∀y∈pre,y.jn≠x.jn):fX pre (x::post)=fX (pre++[x]) post:=by
 have:(pre.any λy=>y.jn==x.jn)=false:=by simpa using hn
 simp[fX,h,this]
theorem zBw (l:List Lg):yH prog 292 [zD xW l] [] (bA (vgF l)) []:=by
 have hl:=zA xW l;unfold vgF;by_cases h3:1<=(l.length:Int)/\(l.length:Int)<=3
 case neg=>
  rw[zYw h3,yAf];by_cases h1:1<=(l.length:Int)
  ·(refine eM call292 λF hF=>?_)
   (refine WW ?_)
   exact zL
  ·(refine eM call292 λF hF=>?_)
   (refine WW ?_)
   exact zL
 rw[zYu h3,zZh];obtain⟨h1,h3⟩:=h3
 (refine eM call292 λF hF=>?_)
 (refine WW ?_)
 (refine kR (l) [] [] [0,15,16] [17,0,15,16] rfl (λi pre T U zs=>(∀post,l=pre++post->fX [] l=fX pre post)/\zs=⟨(17,iA i)::T,U⟩) ?_;(conv=>whnf);refine⟨?_,?_,?_⟩)
 ·exact⟨λpost h=>by rw[h];rfl,rfl⟩
 ·rintro i pre x post st hx hi ⟨hp,rfl⟩;have hy:=xO xW hx hi;have hlt:=yX hx hi;rw[hp _ hx];have cv:=zG9 x
  have hnext:JT x=true->(∀y∈pre,y.jn≠x.jn)->∀p,l=(pre++[x])++p->fX pre (x::post)=fX (pre++[x]) p:=λa b p h=>by
   have e:p=post:=by rw[hx,zZc]at h;simpa using h.symm
   rw[e];exact zEe a b
  cases hv:JT x with
  |false=>
   rw[zN5 hv];rw[hv]at cv;clear hx hp hnext
   (have zc1:=cv;refine WW ?_;clear zc1)
   exact zL
  | true=>
   rw[hv]at cv;have ht:l.take i=pre:=by rw[hx,<-hi];simp
   have hl2:(List.map xW (List.take (i:Int).toNat l)).length=(l.take i).length:=zA xW (l.take i);have hl3:(l.take i).length=i:=by rw[ht];exact hi
   (have zc1:=cv;refine WW ?_;clear zc1)
   (refine kR (l.take i) [4] [4] [0,4,15,16,17,27,28] [29,0,4,15,16,17,27,28] rfl (λi pre T U zs=>(∀y∈pre,y.jn≠x.jn)/\zs=⟨(29,iA i)::T,U⟩) ?_;(conv=>whnf);refine⟨?_,?_,?_⟩)
   ·exact⟨by simp,rfl⟩
   ·rintro k pr y po st2 hq hk ⟨hp2,rfl⟩;have hy2:=xO xW hq hk;have hlt2:=yX hq hk;by_cases he:y.jn=x.jn
    ·rw[zN6 (by rw[<-ht,hq];simp) he];clear hq hx hp hnext
     (refine WW ?_)
     exact zL
    ·have hp3:∀z∈pr++[y],z.jn≠x.jn:=λz hz=>by
      simp only[zZa,zZu]at hz
      rcases hz with hz|rfl
      ·exact hp2 z hz
      ·exact he
     clear hq hx hp hnext
     (refine WW ?_)
     exact⟨hp3,rfl⟩
   ·rintro st2 ⟨hp2,rfl⟩;have hnx:=hnext hv (by rw[<-ht];exact hp2);clear hx hp hnext
    (refine WW ?_)
    exact⟨hnx,rfl⟩
 ·rintro st ⟨hp,rfl⟩;rw[hp [] zU]
  (refine WW ?_)
  exact zL
structure RqO (r:Rq):Prop where
 i0:0<=r.id
 i1:r.id<=4294967295
 v0:0<=r.vh
 v1:r.vh<=4294967295
 c0:0<=r.cls
 c1:r.cls<=3
 t0:0<=r.til
 t1:r.til<=2147483648
 lg:vgF r.legs=true
structure aM (l:List Rq):Prop where
 ok:∀r∈l,RqO r
 so:l.Pairwise λa b=>a.id<b.id
 n4:l.length<=4
theorem aM.lt {l:List Rq} (h:aM l) {i:Nat} (h0:0<i) (hi:i<l.length):(l.getD (i-1) default).id<(l.getD i default).id:=by
 have:=List.pairwise_iff_getElem.1 h.so (i-1) i (by omega) hi (by omega);simpa [List.getD,hi,show i-1<l.length by omega]using this
theorem JU {l:List Lg} (h:vgF l=true):1<=(l.length:Int)/\(l.length:Int)<=3:=by
 unfold vgF at h;rw[zY6]at h;exact yC3 h.1
theorem PL (n:Int):yH prog 290 [iA n] [] (bA (decide (0<=n/\n<=4294967295))) []:=by
 cases hb:decide (0<=n/\n<=4294967295)with
 |false=>(rw[zY9]at hb;(refine eM call290 λF hF=>?_);((refine WW (I2 (λhc=>?_) (λhc=>?_))));all_goals (first|exact zL|(exfalso;omega)|(apply uE;(exact zL);simp only[qT,zY9,zYx,zZw,yAb,zZ7,yAy,yB5];omega)))
 |true=>(rw[zYx]at hb;(refine eM call290 λF hF=>?_);((refine WW ?_));all_goals (first|exact zL|(exfalso;omega)|(apply uE;(exact zL);simp only[qT,zY9,zYx,zZw,yAb,zZ7,yAy,yB5];omega)))
theorem AY (n:Int):yH prog 291 [iA n] [] (bA (decide (0<=n/\n<=3))) []:=by
 cases hb:decide (0<=n/\n<=3)with
 |false=>(rw[zY9]at hb;(refine eM call291 λF hF=>?_);((refine WW (I2 (λhc=>?_) (λhc=>?_))));all_goals (first|exact zL|(exfalso;omega)|(apply uE;(exact zL);simp only[qT,zY9,zYx,zZw,yAb,zZ7,yAy,yB5];omega)))
 |true=>(rw[zYx]at hb;(refine eM call291 λF hF=>?_);((refine WW ?_));all_goals (first|exact zL|(exfalso;omega)|(apply uE;(exact zL);simp only[qT,zY9,zYx,zZw,yAb,zZ7,yAy,yB5];omega)))
theorem zBx (n:Int):yH prog 270 [iA n] [] (bA (decide (0<=n/\n<=1073741824))) []:=by
 cases hb:decide (0<=n/\n<=1073741824)with
 |false=>(rw[zY9]at hb;(refine eM call270 λF hF=>?_);((refine WW (I2 (λhc=>?_) (λhc=>?_))));all_goals (first|exact zL|(exfalso;omega)|(apply uE;(exact zL);simp only[qT,zY9,zYx,zZw,yAb,zZ7,yAy,yB5];omega)))
 |true=>(rw[zYx]at hb;(refine eM call270 λF hF=>?_);((refine WW ?_));all_goals (first|exact zL|(exfalso;omega)|(apply uE;(exact zL);simp only[qT,zY9,zYx,zZw,yAb,zZ7,yAy,yB5];omega)))
theorem VG (l:List Rq) (q:Int) (hv:aM l) (hq:(l.length:Int)<=q):yH prog 269 [zD yL l,iA q] [] (bA true) []:=by
 have hl:=zA yL l;have h4:=hv.n4
 (refine eM call269 λF hF=>?_)
 (refine WW ?_)
 (refine zP (l.length) [] [] [0,16,17] [18,0,16,17] rfl (λi T U=>⟨(18,iA i)::T,U⟩) ?_;(conv=>whnf);refine⟨by rfl,?_,?_⟩)
 ·intro i hi;have hy:=zN yL l i hi;have hm:l.getD i default∈l:=by simp[List.getD,hi]
  obtain⟨i0,i1,v0,v1,c0,c1,t0,t1,lg⟩:=hv.ok _ hm;have k1:=PL (l.getD i default).id;have k2:=PL (l.getD i default).vh;have k3:=AY (l.getD i default).cls;have k4:=zBw (l.getD i default).legs;rw[zYu (by omega)]at k1 k2 k3;rw[lg]at k4;by_cases hi0:0<i
  ·have hyp:=yP yL l ((i:Int)-1) (by omega) (by omega);rw[show((i:Int)-1).toNat=i-1 by omega]at hyp;have hyq:(l.map yL)[((i:Int)-1).toNat]? =some (yL (l.getD (i-1) default)):=by rw[show((i:Int)-1).toNat=i-1 by omega];exact hyp
   have hlt:=hv.lt hi0 hi;clear hyp hm lg;generalize l.getD i default=t at *;generalize l.getD (i-1) default=p at*
   (have zc1:=k1;have zc2:=k2;have zc3:=k3;have zc4:=k4;refine WW ?_;clear zc1 zc2 zc3 zc4)
   rfl
  ·obtain rfl:i=0:=by omega
   clear hm lg;generalize l.getD 0 default=t at*
   (have zc1:=k1;have zc2:=k2;have zc3:=k3;have zc4:=k4;refine WW ?_;clear zc1 zc2 zc3 zc4)
   rfl
 ·(refine WW ?_)
  exact zL
def JW (n:Int) (i:Nat):Int:=IntKind.u8.wrap (BitVec.ofInt IntKind.u8.bits (IntKind.u8.wrap ((IntKind.u64.wrap n).fdiv (2 ^ (min (8*(i:Int)).toNat IntKind.u64.bits)))) ^^^ BitVec.ofInt IntKind.u8.bits (29*(i:Int)+7)).toNat
def dS (n:Int):List Int:=(List.range 8).map (JW n)
theorem eX (n:Int):yH prog 43 [iA n] [] (zD yA (dS n)) []:=by
 have hu:∀i:Nat,((List.range i).map (JW n)).map yA=((List.range i).map (JW n)).map yA:=λ_=>rfl
 (refine eM call43 λF hF=>?_)
 (repeat' (first|refine ZY ?_|refine xR (λhc=>?_) (λhc=>?_)|fail))
 refine xK 3 1001 1 rfl rfl rfl ?_
 refine vA (λk st=>∃i:Nat,k+i=8/\st=⟨[(0,iA n),(3,.ref 1001 0 (((List.range i).map (JW n)).map yA).length),(5,iA i)],[(1001,.arr 1 (((List.range i).map (JW n)).map yA) true)]⟩)
  8 [1001] [0,3,5] rfl ⟨0,rfl,rfl⟩ ?_
 rintro k st ⟨i,hi,rfl⟩;by_cases hlt:i<8
 ·have ht:((List.range (i+1)).map (JW n)).map yA=((List.range i).map (JW n)).map yA++[yA (JW n i)]:=by rw[yBa];simp
  have hs:((List.range i).map (JW n)).length=i:=by simp
  (repeat' (first|refine ZY ?_|refine xR (λhc=>?_) (λhc=>?_)|fail))
  exact⟨k-1,by omega,i+1,by omega,by rw[ht];rfl⟩
 ·obtain rfl:i=8:=by omega
  (repeat' (first|refine ZY ?_|refine xR (λhc=>?_) (λhc=>?_)|fail))
  exact zI [] rfl rfl (zZl (AV.sl false) zYv) rfl
def ad7 (d:Dk):Dk:=ad (ad (ad (ad (ad (ad (ad d))))))
def agF (d:Dk) (num rights:Int):Ag:=⟨dS (1000+num),rights,3,[1+nx d (3-1+1),1+nx (ad d) (3-1+1),nx (ad (ad d)) 3,nx (ad (ad (ad d))) 3],1+nx (ad (ad (ad (ad d)))) (3-1+1),1+nx (ad (ad (ad (ad (ad d))))) (2-1+1),
 1+nx (ad (ad (ad (ad (ad (ad d)))))) (3-1+1),1+nx (ad (ad (ad (ad (ad (ad d)))))) (3-1+1)+nx (ad7 d) 5⟩
theorem zHa (d:Dk) (num rights:Int) (h0:0<=num) (h1:num<=1000):yH prog 39 [.ptr 1000 0 0,iA num,iA rights] [(1000,cG d)] (wN (agF d num rights)) [(1000,cG (ad (ad7 d)))]:=by
 have hb:=yD (ad (ad (ad (ad (ad (ad d)))))) (3-1+1) (by omega);have hb2:=yD (ad7 d) 5 (by omega);have sc:=eX (1000+num);unfold agF ad7 at *;generalize dS (1000+num)=sec at*
 (refine eM call39 λF hF=>?_)
 (repeat' (first|refine ZY ?_|refine xR (λhc=>?_) (λhc=>?_)|(refine zE ?_;refine xT ?_;(first|(refine vT 43 ?_;first|refine yF (zH (sc) rfl rfl rfl rfl rfl) rfl ?_|refine uF (zH (sc) rfl rfl rfl rfl rfl) rfl rfl rfl ?_|refine bJ (zH (sc) rfl rfl rfl rfl rfl) rfl rfl rfl ?_)|(refine vT 37 ?_;first|refine yF (zH (kX _ _ _ (by omega) (by omega) (by omega)) rfl rfl rfl rfl rfl) rfl ?_|refine uF (zH (kX _ _ _ (by omega) (by omega) (by omega)) rfl rfl rfl rfl rfl) rfl rfl rfl ?_|refine bJ (zH (kX _ _ _ (by omega) (by omega) (by omega)) rfl rfl rfl rfl rfl) rfl rfl rfl ?_)|(refine vT 22 ?_;first|refine yF (zH (yJ _ _ (by omega) (by omega)) rfl rfl rfl rfl rfl) rfl ?_|refine uF (zH (yJ _ _ (by omega) (by omega)) rfl rfl rfl rfl rfl) rfl rfl rfl ?_|refine bJ (zH (yJ _ _ (by omega) (by omega)) rfl rfl rfl rfl rfl) rfl rfl rfl ?_)))|fail))
 exact zJ [1000] rfl rfl rfl rfl
def BK (r:Int):Bool:=decide (0<=r/\r<=63)
theorem ZZ (r:Int):yH prog 279 [iA r] [] (bA (BK r)) []:=by
 unfold BK
 by_cases h1:0<=r<;>by_cases h2:r<=63<;>simp only[h1,h2,and_true,yEs,decide_true,yEt]<;>first|(exfalso;omega;done)|((refine eM call279 λF hF=>?_);(refine WW ?_);exact zL)
theorem zHb:∀a b:_root_.Fin 64,(zTa a.val b.val==0)=(eI a.val b.val==(a.val:Int)):=by decide +kernel
def wiF (a b:Int):Bool:=BK a&&BK b&&(eI a b==a)
theorem zN7 (a b:Int):(BK a&&BK b&&(zTa a b==0))=wiF a b:=by
 unfold wiF
 cases ha:BK a<;>cases hb:BK b<;>simp only[zZh,yAf,yCh,yCx]
 simp only[BK,zYx]at ha hb;have:=zHb ⟨a.toNat,by omega⟩ ⟨b.toNat,by omega⟩;dsimp only at this;rw[show((a.toNat:Nat):Int)=a by omega,show((b.toNat:Nat):Int)=b by omega]at this;exact this
theorem FO (a b:Int):yH prog 299 [iA a,iA b] [] (bA (wiF a b)) []:=by
 have c1:=ZZ a;have c2:=ZZ b;rw[<-zN7]
 cases h1:BK a<;>cases h2:BK b<;>rw[h1]at c1<;>rw[h2]at c2<;>simp only[zZh,yAf,yCh]<;>((refine eM call299 λF hF=>?_);(have zc1:=c1;have zc2:=c2;refine WW ?_;clear zc1 zc2);exact zL)
theorem zEf (a b:Int):yU [iA a,iA b] [] (bA (wiF a b)) []:=yG
def AZ (k:Int):Int:=if k=6∨k=7∨k=8 then 1 else if k=4∨k=5 then 2 else if k=2 then 4 else if k=3 then 8 else if k=10 then 16 else if k=11 then 32 else 0
theorem zEg (k:Int):(k=6/\AZ k=1)∨(k=7/\AZ k=1)∨(k=8/\AZ k=1)∨(k=4/\AZ k=2)∨(k=5/\AZ k=2)∨(k=2/\AZ k=4)∨(k=3/\AZ k=8)∨(k=10/\AZ k=16)∨(k=11/\AZ k=32)∨
  (k≠6/\k≠7/\k≠8/\k≠4/\k≠5/\k≠2/\k≠3/\k≠10/\k≠11/\AZ k=0):=by
 by_cases h6:k=6
 ·exact(.inl ⟨h6,by subst h6;rfl⟩)
 by_cases h7:k=7
 ·exact .inr ((.inl ⟨h7,by subst h7;rfl⟩))
 by_cases h8:k=8
 ·exact .inr (.inr ((.inl ⟨h8,by subst h8;rfl⟩)))
 by_cases h4:k=4
 ·exact .inr (.inr (.inr ((.inl ⟨h4,by subst h4;rfl⟩))))
 by_cases h5:k=5
 ·exact .inr (.inr (.inr (.inr ((.inl ⟨h5,by subst h5;rfl⟩)))))
 by_cases h2:k=2
 ·exact .inr (.inr (.inr (.inr (.inr ((.inl ⟨h2,by subst h2;rfl⟩))))))
 by_cases h3:k=3
 ·exact .inr (.inr (.inr (.inr (.inr (.inr ((.inl ⟨h3,by subst h3;rfl⟩)))))))
 by_cases h10:k=10
 ·exact .inr (.inr (.inr (.inr (.inr (.inr (.inr ((.inl ⟨h10,by subst h10;rfl⟩))))))))
 by_cases h11:k=11
 ·exact .inr (.inr (.inr (.inr (.inr (.inr (.inr (.inr ((.inl ⟨h11,by subst h11;rfl⟩)))))))))
 exact .inr (.inr (.inr (.inr (.inr (.inr (.inr (.inr (.inr (⟨h6,h7,h8,h4,h5,h2,h3,h10,h11,by simp[AZ,h6,h7,h8,h4,h5,h2,h3,h10,h11]⟩)))))))))
theorem zHc (k:Int):yH prog 278 [iA k] [] (iA (AZ k)) []:=by
 rcases zEg k with⟨h,e⟩|⟨h,e⟩|⟨h,e⟩|⟨h,e⟩|⟨h,e⟩|⟨h,e⟩|⟨h,e⟩|⟨h,e⟩|⟨h,e⟩|⟨h1,h2,h3,h4,h5,h6,h7,h8,h9,e⟩<;>rw[e]<;>((refine eM call278 λF hF=>?_);(refine WW ?_);exact zL)
def peF (r k:Int):Bool:=BK r&&(eI r (AZ k)==AZ k)
theorem zEh (r k:Int):yH prog 257 [iA r,iA k] [] (bA (peF r k)) []:=by
 have c1:=ZZ r;have c2:=zHc k;unfold peF;generalize AZ k=n at*
 cases h1:BK r<;>rw[h1]at c1<;>simp only[zZh,yAf]<;>((refine eM call257 λF hF=>?_);(have zc1:=c1;have zc2:=c2;refine WW ?_;clear zc1 zc2);exact zL)
theorem zS6 (r b:Int):yH prog 180 [iA r,iA b] [] (bkA ⟨b,r,b⟩) []:=by
 (refine eM call180 λF hF=>?_)
 (refine WW ?_)
 exact zL
def bvF (b:Bk):Bool:=decide (0<=b.burst/\b.burst<=1000/\0<=b.rate/\b.rate<=b.burst/\0<=b.level/\b.level<=b.burst)
theorem zHd (b:Bk):yH prog 282 [bkA b] [] (bA (bvF b)) []:=by
 (cases hb:bvF b with|false=>((refine eM call282 λF hF=>?_);((refine WW (I6 (λhc hc hc hc hc=>?_) (λhc hc hc hc hc=>?_) (λhc hc hc hc=>?_) (λhc hc hc=>?_) (λhc hc=>?_) (λhc=>?_))));all_goals (first|exact zL|(simp only[bvF,zY9]at hb;first|(exfalso;omega)|(apply uE;(exact zL);simp only[qT,zY9,zYx,zZw,yAb,zZ7,yAy,yB5];omega))))|true=>(simp only[bvF,zYx]at hb;(refine eM call282 λF hF=>?_);((refine WW ?_));all_goals (first|exact zL|(exfalso;omega)|(apply uE;(exact zL);simp only[qT,zY9,zYx,zZw,yAb,zZ7,yAy,yB5];omega))))
def btF (b:Bk):Bk:=⟨min (b.level+b.rate) b.burst,b.rate,b.burst⟩
theorem zN8 (b:Bk) (h: -1000000000<=b.level+b.rate/\b.level+b.rate<=1000000000):yH prog 189 [bkA b] [] (bkA (btF b)) []:=by
 (refine eM call189 λF hF=>?_)
 (refine WW ?_)
 exact zL
def FQ (b:Bk):Bk:=if b.level<=0 then b else⟨b.level-1,b.rate,b.burst⟩
theorem zN9 (b:Bk) (h:b.level<=9223372036854775807):yH prog 235 [bkA b] [] (.tup [bkA (FQ b),bA (decide (0<b.level))]) []:=by
 unfold FQ;by_cases h1:b.level<=0
 ·rw[zYp h1,zYw (by omega)]
  (refine eM call235 λF hF=>?_)
  (refine WW ?_)
  exact zL
 ·rw[zYo h1,zYu (by omega)]
  (refine eM call235 λF hF=>?_)
  (refine WW ?_)
  exact zL
def fP (l:List Tk) (s:Int):Bool:=decide (0<=s/\s<l.length)&&(l.getD s.toNat default).used
theorem zAa (l:List Tk) (s:Int):yH prog 233 [zD xE l,iA s] [] (bA (fP l s)) []:=by
 have hl:=zA xE l;unfold fP;by_cases h1:0<=s
 ·by_cases h2:s<l.length
  ·have hy:=yP xE l s h1 h2;rw[zYu ⟨h1,h2⟩,zZh]
   (refine eM call233 λF hF=>?_)
   (refine WW ?_)
   exact zL
  ·rw[zYw (by omega),yAf]
   (refine eM call233 λF hF=>?_)
   (refine WW ?_)
   exact zL
 ·rw[zYw (by omega),yAf]
  (refine eM call233 λF hF=>?_)
  (refine WW ?_)
  exact zL
def laF (a b:Int):Bool:=decide (b≠0/\(a=0∨b<a))
theorem zBy (a b:Int):yH prog 300 [iA a,iA b] [] (bA (laF a b)) []:=by
 unfold laF
 by_cases h1:b=0<;>by_cases h2:a=0<;>by_cases h3:b<a<;>simp only[yB5,h1,h2,h3,yEc,not_false_eq_true,and_true,yEs,true_and,false_and,or_true,true_or,yD5,decide_true,yEt]<;>first|(exfalso;omega;done)|((refine eM call300 λF hF=>?_);(refine WW ?_);exact zL)
theorem zHe (a b:Int):yU [iA a,iA b] [] (bA (laF a b)) []:=yG
def exF (t:Tk) (now:Int):Bool:=decide (t.til≠0/\t.til<now)
theorem LK (t:Tk) (now:Int):yH prog 210 [xE t,iA now] [] (bA (exF t now)) []:=by
 unfold exF
 by_cases h1:t.til=0<;>by_cases h2:t.til<now<;>simp only[yB5,h1,h2,yEc,not_false_eq_true,and_true,yEs,decide_true,yEt]<;>first|(exfalso;omega;done)|((refine eM call210 λF hF=>?_);(refine WW ?_);exact zL)
def frT:Tk:=⟨false,[],-1,0,0,0⟩
theorem zAb:yH prog 205 [] [] (xE frT) []:=by
 (refine eM call205 λF hF=>?_)
 (refine WW ?_)
 exact zL
theorem bI {α:Type} (f:α->AV) (l:List α):AV.sl false ((l.map f).take (l.map f).length)=zD f l:=by rw[zYv];rfl
def jC {α:Type} (_:Nat) (l:List α):List α:=l
theorem VH (l:List Int) (hl:l.length<=1073741824):yH prog 107 [zD iA l] [] (zD iA l) []:=by
 have hll:=zA iA l
 (refine eM call107 λF hF=>?_)
 refine xD 0 rfl (λcap hx=>?_) ?_
 ·have:l=[]:=by simpa using hx
  subst this
  (refine WW ?_)
  exact zL
 ·(refine WW ?_)
  refine zI [] rfl rfl (bI _ _) rfl
theorem wK (l:List Int) (hl:l.length<=1073741824):yH prog 79 [zD yA l] [] (zD yA l) []:=by
 have hll:=zA yA l
 (refine eM call79 λF hF=>?_)
 refine xD 0 rfl (λcap hx=>?_) ?_
 ·have:l=[]:=by simpa using hx
  subst this
  (refine WW ?_)
  exact zL
 ·(refine WW ?_)
  refine zI [] rfl rfl (bI _ _) rfl
theorem FR (l:List Vh) (hl:l.length<=1073741824):yH prog 186 [zD vQ l] [] (zD vQ l) []:=by
 have hll:=zA vQ l
 (refine eM call186 λF hF=>?_)
 refine xD 0 rfl (λcap hx=>?_) ?_
 ·have:l=[]:=by simpa using hx
  subst this
  (refine WW ?_)
  exact zL
 ·(refine WW ?_)
  refine zI [] rfl rfl (bI _ _) rfl
theorem XO (l:List Tk) (hl:l.length<=1073741824):yH prog 185 [zD xE l] [] (.ref 1001 0 (l.map xE).length) [(1001,.arr 6 (l.map xE) false)]:=by
 have hll:=zA xE l
 (refine eM call185 λF hF=>?_)
 refine xD 0 rfl (λcap hx=>?_) ?_
 ·have:l=[]:=by simpa using hx
  subst this
  (repeat' (first|refine AX ?_|refine xR (λhc=>?_) (λhc=>?_)|refine wE (λhc=>?_)|fail))
  refine uB 2 1001 6 rfl rfl rfl (yQ ?_);exact zJ [1001] rfl rfl rfl rfl
 ·repeat' (first|(refine zE ?_;first|refine wZ tok rfl rfl ?_|(refine wS ?_;refine yF (yM tok (.inl ⟨rfl,rfl⟩) rfl rfl rfl rfl) rfl ?_)|(refine yZ ?_;refine uF (nw:=[1001]) (yK tok 1001 (xs:=[]) rfl rfl rfl rfl rfl rfl rfl rfl rfl) rfl rfl rfl ?_)|(refine yW ?_;refine xX tok rfl rfl rfl rfl rfl rfl rfl (yY _ _ (λ_=>rfl)) rfl rfl rfl (by omega) rfl ?_)|refine uM ?_)|(first|refine xM ?_|refine xB ?_|refine wU rfl ?_|refine zV rfl ?_|refine zQ rfl ?_|refine xF rfl (λhc=>?_) (λhc=>?_)|refine yV ?_|refine yQ ?_|refine xC ?_|refine yN ?_))
  exact zJ [1001] rfl rfl rfl rfl
structure GJ (l:List Tk):Prop where
 n:l.length<=1000000
 s:∀t∈l,t.sec.length<=1000000
theorem kO {α:Type} [Inhabited α] (f:α->AV) (l:List α) (i:Nat) (hi:i<l.length):(jC i (l.map f)).set i (f (l.getD i default))=jC (i+1) (l.map f):=by
 unfold jC;have:=zN f l i hi;rw[zZg]at this;obtain⟨h,e⟩:=this;rw[<-e,yDx]
theorem XP (l:List Tk) (hb:GJ l):yH prog 208 [zD xE l] [] (.ref 1001 0 (l.map xE).length) [(1001,.arr 6 (l.map xE) false)]:=by
 have c:=XO l (by have:=hb.n;omega);have hn:=hb.n;have hll:=zA xE l
 (refine eM call208 λF hF=>?_)
 (have zc1:=c;refine WW ?_;clear zc1)
 (refine zP ((l.map xE).length) [1001] [] [3,8] [9,3,8] rfl (λi T U=>⟨(9,iA i)::T,(1001,.arr 6 (jC i (l.map xE)) false)::U⟩) ?_;(conv=>whnf);refine⟨by rfl,?_,?_⟩)
 ·intro i hi;have hi':i<l.length:=by omega
  have hy:(jC i (l.map xE))[i]? =some (xE (l.getD i default)):=zN xE l i hi';have e:=kO xE l i hi';have c2:=wK (l.getD i default).sec (by have:=hb.s (l.getD i default) aH;omega);generalize (l.getD i default)=t at *;generalize jC i (l.map xE)=xs at *;generalize jC (i+1) (l.map xE)=ys at *;subst e
  (have zc1:=c2;refine WW ?_;clear zc1)
  rfl
 ·(refine WW ?_)
  exact zJ [1001] rfl rfl rfl rfl
theorem FS (a:Ag) (h1:a.sec.length<=1000000) (h2:a.lim.length<=1000000):yH prog 178 [wN a] [] (wN a) []:=by
 have c1:=wK a.sec (by omega);have c2:=VH a.lim (by omega)
 (refine eM call178 λF hF=>?_)
 (have zc1:=c1;have zc2:=c2;refine WW ?_;clear zc1 zc2)
 exact zL
structure FT (r:Rg):Prop where
 tk:GJ r.tk
 s:r.ag.sec.length<=1000000
 l:r.ag.lim.length<=1000000
 v:r.vh.length<=1000000
def rgX (r:Rg) (xs:List AV):AV:= .agg [iA r.num,zD yA r.ag.sec,iA r.ag.rights,iA r.ag.cls,zD iA r.ag.lim,iA r.ag.req,iA r.ag.ses,iA r.ag.rate,iA r.ag.burst,.sl false xs,zD vQ r.vh,iA r.bk.level,iA r.bk.rate,iA r.bk.burst]
theorem dB (r:Rg) (hb:FT r):yH prog 187 [qG r] [] (qG r) []:=by
 have c1:=FS r.ag hb.s hb.l;have hn:=hb.tk.n;have hv:=hb.v;have c2:=XO r.tk (by omega);have c3:=FR r.vh (by omega);have hll:=zA xE r.tk
 (refine eM call187 λF hF=>?_)
 (have zc1:=c1;have zc2:=c2;refine WW ?_;clear zc1 zc2)
 (refine zP ((r.tk.map xE).length) [1001,1,2] [1,2] [1,2,14] [15,1,2,14] rfl (λi T U=>⟨(15,iA i)::T,(1001,.arr 6 (jC i (r.tk.map xE)) false)::U⟩) ?_;(conv=>whnf);refine⟨by rfl,?_,?_⟩)
 ·intro i hi;have hi':i<r.tk.length:=by omega
  have hy:(jC i (r.tk.map xE))[i]? =some (xE (r.tk.getD i default)):=zN xE r.tk i hi';have e:=kO xE r.tk i hi';have c2:=wK (r.tk.getD i default).sec (by have:=hb.tk.s (r.tk.getD i default) aH;omega);generalize (r.tk.getD i default)=t at *;generalize jC i (r.tk.map xE)=xs at *;generalize jC (i+1) (r.tk.map xE)=ys at *;subst e
  (have zc1:=c2;refine WW ?_;clear zc1)
  rfl
 ·(have zc1:=c3;refine WW ?_;clear zc1)
  exact zI [] rfl rfl (zZl (rgX r) zYv) rfl
theorem aM.lg3 {l:List Rq} (h:aM l) {r:Rq} (hr:r∈l):1<=r.legs.length/\r.legs.length<=3:=by
 have:=JU (h.ok r hr).lg;omega
theorem aM.filter {l:List Rq} (h:aM l) (p:Rq->Bool):aM (l.filter p):=
 ⟨λr hr=>h.ok r (yBl.1 hr).1,h.so.filter p,zZy (yAv _ _) h.n4⟩
theorem cT (l:List Lg) (hl:l.length<=1000):yH prog 152 [zD xW l] [] (zD xW l) []:=by
 have hll:=zA xW l
 (refine eM call152 λF hF=>?_)
 refine xD 0 rfl (λcap hx=>?_) ?_
 ·have:l=[]:=by simpa using hx
  subst this
  (refine WW ?_)
  exact zL
 ·(refine WW ?_)
  refine zI [] rfl rfl (bI _ _) rfl
theorem VI (r:Rq) (hl:r.legs.length<=1000):yH prog 211 [yL r] [] (yL r) []:=by
 have c:=cT r.legs hl;have hll:=zA xW r.legs
 (refine eM call211 λF hF=>?_)
 (have zc1:=c;refine WW ?_;clear zc1)
 exact zL
theorem FU (p:Rq->Bool) (pre:List Rq) (x:Rq):((pre++[x]).filter p).map yL=(pre.filter p).map yL++(if p x=true then [x]else []).map yL:=by
 rw[yBz,zYz]
 congr 2
 cases h:p x<;>simp[h]
theorem zAc (fn:Nat) (v:Int) (p:Rq->Bool) (l:List Rq) (hn:l.length<=1000) (hb:∀r∈l,r.legs.length<=1000) (c:∀x,yH prog fn [yL x,.ptr 3 0 0] [(3,.box [iA v])] (bA (p x)) [(3,.box [iA v])]):
  yH prog 190 [zD yL l,.fn fn [.ptr 3 0 0]] [(3,.box [iA v])] (zD yL (l.filter p)) [(3,.box [iA v])]:=by
 have hl:=zA yL l
 (refine eM call190 λF hF=>?_)
 (refine WW ?_)
 refine xK 5 1001 5 rfl rfl rfl ?_
 (refine yS (l) [1001,3] [3] [1,8,9] [5,10,1,8,9] rfl (λi pre T U=>⟨(5,.ref 1001 0 ((pre.filter p).map yL).length)::(10,iA i)::T,(1001,.arr 5 ((pre.filter p).map yL) true)::U⟩) ?_;(conv=>whnf);refine⟨by rfl,?_,?_⟩)
 ·intro i pre x post hx hi;have hy:=xO yL hx hi;have hlt:=yX hx hi;have hle:(pre.filter p).length<=i:=by rw[<-hi];exact yAv _ _
  have hlm:=zA yL (pre.filter p);have c1:=c x;have c2:=VI x (hb x (wY hx));have e:=FU p pre x;rw[e];clear hx e;generalize (pre.filter p).map yL=R at*
  cases h:p x with
  |false=>
   rw[h]at c1;rw[zYo zZb]
   (have zc1:=c1;refine WW ?_;clear zc1)
   rw[yA5,zZo];rfl
  |true=>
   rw[h]at c1;rw[zYp rfl]
   (have zc1:=c1;have zc2:=c2;refine WW ?_;clear zc1 zc2)
   rfl
 ·(refine WW ?_)
  exact zJ [3] rfl rfl (bI _ _) rfl
end Av
end Go.Proofs.YtmamjhmoegjapaaGreat
