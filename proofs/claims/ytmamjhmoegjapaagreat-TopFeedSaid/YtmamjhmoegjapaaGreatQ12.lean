/- Part 12. -/
import Derived.Test.YtmamjhmoegjapaaGreatQ11
namespace Go.Proofs.YtmamjhmoegjapaaGreat
namespace Av
open Tryz
set_option linter.all false
set_option maxRecDepth 4000
set_option maxHeartbeats 4000000
structure bS (q:Prop):Prop where
 h:q
structure FzD (n:Nat) (K ts:List Nat):Prop where
theorem I2 {a b:Prop} (x:a) (y:b):a/\b:=⟨x,y⟩
theorem I4 {a b c d:Prop} (x:a) (y:b) (z:c) (u:d):a/\b/\c/\d:=⟨x,y,z,u⟩
theorem I5 {a b c d e:Prop} (x:a) (y:b) (z:c) (u:d) (v:e):a/\b/\c/\d/\e:=⟨x,y,z,u,v⟩
theorem I6 {a b c d e f:Prop} (x:a) (y:b) (z:c) (u:d) (v:e) (w:f):a/\b/\c/\d/\e/\f:=⟨x,y,z,u,v,w⟩
section
variable {P:Program} {K0:List Nat} {F:Fr K0} {m:Nat} {ops:Array Oper} {rest:List Oper} {Q:List FP->St->Prop} {dr:Bool} {fs:List FP} {ty t:Nat} {pos:String} {after:Array Edge} {st:St}
theorem XI {n:Nat} {az0:List AV} {h0:List (Nat×xN)} {r:AV} {h1:List (Nat×xN)} (_:xO P n az0 h0 r h1) {az:Array Operand} {ts:Array Nat} (hk:zZ P F m ops dr (⟨some t,.call ⟨.value (.func n),az,ts⟩,ty,pos,after,none⟩::rest) st fs Q):zZ P F m ops dr (⟨some t,.call ⟨.value (.func n),az,ts⟩,ty,pos,after,none⟩::rest) st fs Q:=hk
theorem AF {n:Nat} {K ts:List Nat} (_:FzD n K ts) {az:Array Operand} {tz:Array Nat} (hk:zZ P F m ops dr (⟨some t,.call ⟨.value (.func n),az,tz⟩,ty,pos,after,none⟩::rest) st fs Q):zZ P F m ops dr (⟨some t,.call ⟨.value (.func n),az,tz⟩,ty,pos,after,none⟩::rest) st fs Q:=hk
theorem QW {tm:List (Nat×AV)} {h:List (Nat×xN)} {Q:List FP->St->Prop} {n:Nat} {K ts:List Nat} (_:FzD n K ts) (hK:K0.all (K.contains ·)=true) (h1:fL K (zC h) tm ts λT=>fD K (zC h) K λU=>zZ P F m ops false rest ⟨T,U⟩ fs Q):zZ P F m ops false rest ⟨tm,h⟩ fs Q:=jY K ts hK h1
end
theorem CC {p q:Prop} (k:q) (h:bS q->p:=by(intro zq9;(((first|refine XI zc ?_|refine ZE ?_);first|refine xK (zI (zc) rfl rfl rfl rfl rfl) rfl ?_|refine uG (zI (zc) rfl rfl rfl rfl rfl) rfl rfl rfl ?_|refine aD (zI (zc) rfl rfl rfl rfl rfl) rfl rfl rfl ?_|refine xK (wF (zc) rfl rfl rfl rfl rfl) rfl ?_|refine uG (wF (zc) rfl rfl rfl rfl rfl) rfl rfl rfl ?_));exact zq9.h)):p:=h ⟨k⟩
theorem PT {p q:Prop} (k:q) (h:bS q->p:=by(intro zq9;(first|refine vK tok rfl rfl ?_|(refine XN ?_;first|refine zS4 rfl rfl ?_|refine zIy rfl rfl rfl rfl ?_)|(refine wZ ?_;first|refine xK (UT rfl rfl rfl (by unfold JC;omega)) rfl ?_|refine xK (UU rfl rfl rfl (by unfold JC;omega)) rfl ?_|refine xK (JD rfl rfl rfl) rfl ?_|refine xK (JR rfl rfl ⟨by omega,by omega⟩) rfl ?_|refine xK (JT rfl rfl ⟨by omega,by omega⟩) rfl ?_|refine xK (JU rfl rfl ⟨by omega,by omega⟩) rfl ?_|refine xK (JW rfl rfl (by assumption) (by omega)) rfl ?_|refine xK (JX rfl rfl (by omega)) rfl ?_|refine xK (JZ rfl rfl) rfl ?_|refine xK (zJd rfl rfl (by omega)) rfl ?_|refine xK (zJe rfl rfl (by omega)) rfl ?_|refine xK (jH (.inl ⟨rfl,rfl⟩) rfl rfl (by omega)) rfl ?_|refine xK (jH (.inr ⟨rfl,rfl⟩) rfl rfl (by omega)) rfl ?_|refine xK (fZ tok rfl rfl rfl rfl (.inl ⟨rfl,rfl⟩)) rfl ?_|refine xK (fZ tok rfl rfl rfl rfl (.inr ⟨rfl,rfl⟩)) rfl ?_|refine xK (XQ tok (.inl ⟨rfl,rfl⟩) rfl rfl rfl) rfl ?_|refine xK (yW tok (.inl ⟨rfl,rfl⟩) rfl rfl rfl rfl) rfl ?_|refine xK (zJb rfl rfl) rfl ?_|refine xK (zOc rfl rfl) rfl ?_|refine xK (zJc rfl rfl) rfl ?_|refine xK (AU rfl rfl (by assumption)) rfl ?_|refine xK (MV rfl rfl) rfl ?_|refine xK (AW rfl rfl (by assumption)) rfl ?_|refine xK (MW rfl rfl) rfl ?_)|(refine AK ?_;first|refine xK (gK tok rfl rfl rfl rfl rfl (by omega) cB rfl rfl) rfl ?_|refine xK (gF tok rfl rfl rfl rfl rfl rfl (by omega) (by omega) rfl) rfl ?_|refine xK (jW tok rfl rfl rfl rfl rfl rfl (by omega) (by omega)) rfl ?_)|(refine JJ ?_;first|refine xK (bG tok rfl rfl rfl cB rfl) rfl ?_|refine xK (bF tok rfl rfl rfl cB rfl) rfl ?_|refine xK (dZ tok rfl rfl rfl rfl cB rfl) rfl ?_|refine xK (dY tok rfl rfl rfl rfl cB rfl) rfl ?_)|(refine AL ?_;first|refine xK (jV tok rfl rfl rfl rfl rfl rfl rfl rfl) rfl ?_|refine xK (gJ tok rfl cB rfl rfl rfl rfl rfl rfl) rfl ?_)|(refine yV ?_;first|refine wO tok rfl rfl rfl rfl rfl rfl rfl (by first|(intro y hy;cases hy;rfl)|exact xH _ _ (λ_=>rfl)) rfl rfl rfl (by first|omega|(simp;done)|(simp;omega)) rfl ?_|refine qB tok rfl rfl rfl rfl rfl rfl rfl rfl rfl rfl rfl (by first|(intro y hy;cases hy;rfl)|exact xH _ _ (λ_=>rfl)) (by first|omega|(simp;done)|(simp;omega)) rfl ?_)|(refine PA ?_;first|refine xK (IG rfl ⟨by omega,by omega⟩) rfl ?_)|(refine JE ?_;first|refine xK (aX tok rfl rfl rfl rfl ⟨by omega,by omega⟩) rfl ?_|refine xK (VO tok rfl rfl rfl rfl) rfl ?_|refine xK (DB tok rfl rfl rfl rfl rfl rfl rfl cB) rfl ?_)|(refine qU ?_;first|refine XR tok rfl rfl rfl rfl rfl (by first|(intro y hy;cases hy;rfl)|exact xH _ _ (λ_=>rfl)|assumption|(simp;done)) (by omega) wQ (by first|exact yA4.symm|rfl) rfl ?_|refine PW tok rfl rfl rfl rfl rfl (by first|(intro y hy;cases hy;rfl)|exact xH _ _ (λ_=>rfl)|assumption|(simp;done)) (by omega) wQ (by first|exact yA5.symm|rfl) rfl ?_|refine zOd tok rfl rfl rfl rfl rfl rfl (by first|(intro y hy;cases hy;rfl)|exact xH _ _ (λ_=>rfl)|assumption|(simp;done)) (by omega) (by omega) (by first|omega|(simp;omega)) (by first|assumption|rfl) rfl ?_));exact zq9.h)):p:=h ⟨k⟩
theorem SB {p q:Prop} (k:q) (h:bS q->p:=by(intro zq9;refine zE ?_;(first|(refine AY ?_;refine xK (gL rfl rfl rfl) rfl ?_)|refine ZW tok rfl rfl rfl rfl ?_|(refine bI ?_;first|refine zAf tok rfl rfl rfl rfl rfl rfl ?_|refine bH tok rfl rfl rfl ?_|refine zTb tok rfl rfl rfl cB rfl rfl rfl rfl rfl rfl ?_|refine AZ tok rfl rfl rfl cB rfl rfl rfl rfl rfl rfl rfl rfl ?_)|refine qC ?_|refine UX VL ?_);exact zq9.h)):p:=h ⟨k⟩
theorem SC {p q:Prop} (k:q) (h:bS q->p:=by(intro zq9;((first|(refine AF zf1 ?_;refine QW zf1 rfl ?_;(conv=>whnf);(try simp only[zYf,zXe]))|(refine AF zf2 ?_;refine QW zf2 rfl ?_;(conv=>whnf);(try simp only[zYf,zXe]))|(refine AF zf3 ?_;refine QW zf3 rfl ?_;(conv=>whnf);(try simp only[zYf,zXe]))|skip);first|(have zc:=zc1;refine CC ?_;clear zc)|(have zc:=zc2;refine CC ?_;clear zc)|(have zc:=zc3;refine CC ?_;clear zc)|(have zc:=zc4;refine CC ?_;clear zc)|(have zc:=zc5;refine CC ?_;clear zc)|(have zc:=zc6;refine CC ?_;clear zc)|(have zc:=zc7;refine CC ?_;clear zc)|(have zc:=zc8;refine CC ?_;clear zc)|(have zc:=zc9;refine CC ?_;clear zc)|(have zc:=zc10;refine CC ?_;clear zc)|(have zc:=zc11;refine CC ?_;clear zc)|(have zc:=zc12;refine CC ?_;clear zc)|(have zc:=zc13;refine CC ?_;clear zc)|(have zc:=zc14;refine CC ?_;clear zc)|(have zc:=zc15;refine CC ?_;clear zc)|(have zc:=zc16;refine CC ?_;clear zc)|fail);exact zq9.h)):p:=h ⟨k⟩
theorem WZ {p q:Prop} (k:q) (h:bS q->p:=by(intro zq9;(repeat1' (first|(refine zE ?_;first|refine PT ?_|(refine wB ?_;refine SC ?_)|refine SB ?_)|refine xS ?_|refine yZ ?_|refine yX ?_|refine xA ?_));exact zq9.h)):p:=h ⟨k⟩
theorem WS {p q:Prop} (k:q) (h:bS q->p:=by(intro zq9;(repeat1' (first|(refine zE ?_;first|refine PT ?_|(refine wB ?_;refine SC ?_)|refine SB ?_)));exact zq9.h)):p:=h ⟨k⟩
theorem WV {p q:Prop} (k:q) (h:bS q->p:=by(intro zq9;(repeat1' (first|(refine zE ?_;first|refine PT ?_|(refine wB ?_;refine SC ?_)|((fail_if_success refine yT ?_);refine SB ?_))));exact zq9.h)):p:=h ⟨k⟩
theorem WY {p q:Prop} (k:q) (h:bS q->p:=by(intro zq9;(repeat1' (first|(refine zE ?_;first|refine PT ?_|(refine wB ?_;refine SC ?_)|((fail_if_success refine yT ?_);refine SB ?_))|refine xS ?_|refine yZ ?_|refine yX ?_|refine xA ?_));exact zq9.h)):p:=h ⟨k⟩
theorem WT {p q:Prop} (k:q) (h:bS q->p:=by(intro zq9;(repeat1' (first|(refine zE ?_;first|refine PT ?_|(refine wB ?_;refine SC ?_)|((fail_if_success refine bI ?_);refine SB ?_))|refine xS ?_|refine yZ ?_|refine yX ?_|refine xA ?_));exact zq9.h)):p:=h ⟨k⟩
theorem SG {p q:Prop} (k:q) (h:bS q->p:=by(intro zq9;refine zE ?_;refine XN ?_;((refine cP rfl rfl (λzh9=>?_) (λzh9=>?_))<;>(try simp only[qZ,zXi,zXu,zYr,zZs,yAt,zZ4,zYm,zYy,yCg,yCf,yA6]at zh9));(all_goals (repeat revert zh9));first|done|(exact zq9.h;done)|(exact zq9.h.1;exact zq9.h.2;done)|(exact zq9.h.1;exact zq9.h.2.1;exact zq9.h.2.2;done)|(exact zq9.h.1;exact zq9.h.2.1;exact zq9.h.2.2.1;exact zq9.h.2.2.2;done)|(exact zq9.h.1;exact zq9.h.2.1;exact zq9.h.2.2.1;exact zq9.h.2.2.2.1;exact zq9.h.2.2.2.2;done)|(exact zq9.h.1;exact zq9.h.2.1;exact zq9.h.2.2.1;exact zq9.h.2.2.2.1;exact zq9.h.2.2.2.2.1;exact zq9.h.2.2.2.2.2;done))):p:=h ⟨k⟩
theorem SK {p q:Prop} (k:q) (h:bS q->p:=by(intro zq9;((refine xJ rfl (λzh9=>?_) (λzh9=>?_))<;>(try simp only[qZ,zXi,zXu,zYr,zZs,yAt,zZ4,zYm,zYy,yCg,yCf,yA6]at zh9));(all_goals (repeat revert zh9));first|done|(exact zq9.h;done)|(exact zq9.h.1;exact zq9.h.2;done)|(exact zq9.h.1;exact zq9.h.2.1;exact zq9.h.2.2;done)|(exact zq9.h.1;exact zq9.h.2.1;exact zq9.h.2.2.1;exact zq9.h.2.2.2;done)|(exact zq9.h.1;exact zq9.h.2.1;exact zq9.h.2.2.1;exact zq9.h.2.2.2.1;exact zq9.h.2.2.2.2;done)|(exact zq9.h.1;exact zq9.h.2.1;exact zq9.h.2.2.1;exact zq9.h.2.2.2.1;exact zq9.h.2.2.2.2.1;exact zq9.h.2.2.2.2.2;done))):p:=h ⟨k⟩
theorem SM {p q:Prop} (k:q) (h:bS q->p:=by(intro zq9;((refine gO ?_;refine zBm tok rfl rfl rfl rfl rfl rfl rfl rfl rfl rfl rfl rfl rfl (by omega) (by omega) rfl rfl rfl ?_));exact zq9.h)):p:=h ⟨k⟩
theorem SL {p q:Prop} (k:q) (h:bS q->p:=by(intro zq9;(first|(refine yT ?_;refine qX tok rfl rfl ?_)|(refine yV ?_;refine MX tok rfl rfl rfl rfl rfl rfl (by first|(intro y hy;cases hy;rfl)|exact xH _ _ (λ_=>rfl)) rfl rfl rfl (by first|omega|(simp;done)|(simp;omega)) rfl ?_));exact zq9.h)):p:=h ⟨k⟩
theorem SR {p q:Prop} (k:q) (h:bS q->p:=by(intro zq9;(first|refine xS ?_|refine yZ ?_|refine vA rfl ?_|refine zX rfl ?_|refine zQ rfl ?_|refine yX ?_|refine yU ?_|refine xA ?_|refine yS ?_);exact zq9.h)):p:=h ⟨k⟩
theorem SX {p q:Prop} (k:q) (h:bS q->p:=by(intro zq9;(first|refine xS ?_|refine yZ ?_|refine zX rfl ?_|refine zQ rfl ?_|refine yX ?_|refine yU ?_|refine xA ?_);exact zq9.h)):p:=h ⟨k⟩
theorem SN {p q:Prop} (k:q) (h:bS q->p:=by(intro zq9;(first|refine xS ?_|refine yZ ?_|refine vA rfl ?_|refine zX rfl ?_|refine zQ rfl ?_|refine yX ?_|refine xA ?_|refine yS ?_);exact zq9.h)):p:=h ⟨k⟩
theorem SQ {p q:Prop} (k:q) (h:bS q->p:=by(intro zq9;(first|refine xS ?_|refine yZ ?_|refine vA rfl ?_|refine yX ?_|refine yU ?_|refine xA ?_);exact zq9.h)):p:=h ⟨k⟩
theorem SV {p q:Prop} (k:q) (h:bS q->p:=by(intro zq9;(first|refine xS ?_|refine yZ ?_|refine vA rfl ?_|refine zX rfl ?_|refine zQ rfl ?_|refine yX ?_|refine yU ?_|refine xA ?_);exact zq9.h)):p:=h ⟨k⟩
structure One (a:Prop):Prop where
 x:a
structure Two (a b:Prop):Prop where
 x:a
 y:b
theorem wD {a:Prop} (x:a):One a:=⟨x⟩
theorem xQ {a b:Prop} (x:a) (y:b):Two a b:=⟨x,y⟩
theorem YG {p a b:Prop} (k:Two a b) (h:a->b->p:=by(intro zx8 zy8;refine zE ?_;refine XN ?_;((refine cP rfl rfl (λzh9=>?_) (λzh9=>?_))<;>(try simp only[qZ,zXi,zXu,zYr,zZs,yAt,zZ4,zYm,zYy,yCg,yCf,yA6]at zh9));(all_goals (repeat revert zh9));exact zx8;exact zy8)):p:=h k.x k.y
theorem YG1 {p a:Prop} (k:One a) (h:a->p:=by(intro zx8;refine zE ?_;refine XN ?_;((refine cP rfl rfl (λzh9=>?_) (λzh9=>?_))<;>(try simp only[qZ,zXi,zXu,zYr,zZs,yAt,zZ4,zYm,zYy,yCg,yCf,yA6]at zh9));(all_goals (repeat revert zh9));exact zx8)):p:=h k.x
theorem YK {p a b:Prop} (k:Two a b) (h:a->b->p:=by(intro zx8 zy8;((refine xJ rfl (λzh9=>?_) (λzh9=>?_))<;>(try simp only[qZ,zXi,zXu,zYr,zZs,yAt,zZ4,zYm,zYy,yCg,yCf,yA6]at zh9));(all_goals (repeat revert zh9));exact zx8;exact zy8)):p:=h k.x k.y
theorem YK1 {p a:Prop} (k:One a) (h:a->p:=by(intro zx8;((refine xJ rfl (λzh9=>?_) (λzh9=>?_))<;>(try simp only[qZ,zXi,zXu,zYr,zZs,yAt,zZ4,zYm,zYy,yCg,yCf,yA6]at zh9));(all_goals (repeat revert zh9));exact zx8)):p:=h k.x
theorem YG0 {p a b:Prop} (k:Two a b) (h:a->b->p:=by(intro zx8 zy8;refine zE ?_;refine XN ?_;refine cP rfl rfl (λzh9=>?_) (λzh9=>?_);(all_goals (repeat revert zh9));exact zx8;exact zy8)):p:=h k.x k.y
theorem YK0 {p a b:Prop} (k:Two a b) (h:a->b->p:=by(intro zx8 zy8;refine xJ rfl (λzh9=>?_) (λzh9=>?_);(all_goals (repeat revert zh9));exact zx8;exact zy8)):p:=h k.x k.y
theorem qA {p q:Prop} (k:q) (h:bS q->p:=by(intro zq9;(first|refine WZ ?_|refine YG ?_|refine YG1 ?_|refine SR ?_|refine YK ?_|refine YK1 ?_);exact zq9.h)):p:=h ⟨k⟩
theorem WZX {p q:Prop} (k:q) (h:bS q->p:=by(intro zq9;(first|refine WZ ?_|refine YG ?_|refine YG1 ?_|refine SX ?_);exact zq9.h)):p:=h ⟨k⟩
theorem WZN {p q:Prop} (k:q) (h:bS q->p:=by(intro zq9;(first|refine WZ ?_|refine YG ?_|refine YG1 ?_|refine SN ?_|refine YK ?_|refine YK1 ?_);exact zq9.h)):p:=h ⟨k⟩
theorem WZB {p q:Prop} (k:q) (h:bS q->p:=by(intro zq9;(first|refine WZ ?_|refine YG ?_|refine YG1 ?_|refine SQ ?_);exact zq9.h)):p:=h ⟨k⟩
theorem WZC {p q:Prop} (k:q) (h:bS q->p:=by(intro zq9;(first|refine WZ ?_|refine YG ?_|refine YG1 ?_|refine SV ?_|refine YK ?_|refine YK1 ?_);exact zq9.h)):p:=h ⟨k⟩
theorem aU {p q:Prop} (k:q) (h:bS q->p:=by(intro zq9;(first|refine WY ?_|refine YG ?_|refine YG1 ?_|refine SR ?_|refine YK ?_|refine YK1 ?_);exact zq9.h)):p:=h ⟨k⟩
theorem WYX {p q:Prop} (k:q) (h:bS q->p:=by(intro zq9;(first|refine WY ?_|refine YG ?_|refine YG1 ?_|refine SX ?_);exact zq9.h)):p:=h ⟨k⟩
theorem WTR {p q:Prop} (k:q) (h:bS q->p:=by(intro zq9;(first|refine WT ?_|refine YG ?_|refine YG1 ?_|refine SR ?_|refine YK ?_|refine YK1 ?_);exact zq9.h)):p:=h ⟨k⟩
theorem ZV {p q:Prop} (k:q) (h:bS q->p:=by(intro zq9;(first|refine WZ ?_|refine YG0 ?_|refine SR ?_|refine YK0 ?_);exact zq9.h)):p:=h ⟨k⟩
theorem WW {p q:Prop} (k:q) (h:bS q->p:=by(intro zq9;(repeat' (first|refine WZ ?_|refine SG (I2 (λzh8=>?_) (λzh8=>?_))|refine SG (λzh8=>?_)|(refine zE ?_;refine SM ?_)|refine SR ?_|refine SK (I2 (λzh8=>?_) (λzh8=>?_))|refine SK (λzh8=>?_)|fail));(all_goals (repeat revert zh8));first|done|(exact zq9.h;done)|(exact zq9.h.1;exact zq9.h.2;done)|(exact zq9.h.1;exact zq9.h.2.1;exact zq9.h.2.2;done)|(exact zq9.h.1;exact zq9.h.2.1;exact zq9.h.2.2.1;exact zq9.h.2.2.2;done)|(exact zq9.h.1;exact zq9.h.2.1;exact zq9.h.2.2.1;exact zq9.h.2.2.2.1;exact zq9.h.2.2.2.2;done)|(exact zq9.h.1;exact zq9.h.2.1;exact zq9.h.2.2.1;exact zq9.h.2.2.2.1;exact zq9.h.2.2.2.2.1;exact zq9.h.2.2.2.2.2;done))):p:=h ⟨k⟩
theorem WL {p q:Prop} (k:q) (h:bS q->p:=by(intro zq9;(repeat' (first|refine WY ?_|refine SG (I2 (λzh8=>?_) (λzh8=>?_))|refine SG (λzh8=>?_)|(refine zE ?_;first|refine SL ?_|refine SM ?_)|refine SB ?_|refine SR ?_|refine SK (I2 (λzh8=>?_) (λzh8=>?_))|refine SK (λzh8=>?_)|fail));(all_goals (repeat revert zh8));first|done|(exact zq9.h;done)|(exact zq9.h.1;exact zq9.h.2;done)|(exact zq9.h.1;exact zq9.h.2.1;exact zq9.h.2.2;done)|(exact zq9.h.1;exact zq9.h.2.1;exact zq9.h.2.2.1;exact zq9.h.2.2.2;done)|(exact zq9.h.1;exact zq9.h.2.1;exact zq9.h.2.2.1;exact zq9.h.2.2.2.1;exact zq9.h.2.2.2.2;done)|(exact zq9.h.1;exact zq9.h.2.1;exact zq9.h.2.2.1;exact zq9.h.2.2.2.1;exact zq9.h.2.2.2.2.1;exact zq9.h.2.2.2.2.2;done))):p:=h ⟨k⟩
theorem WD {p q:Prop} (k:q) (h:bS q->p:=by(intro zq9;(repeat' (first|refine WZ ?_|refine SG (I2 (λzh8=>?_) (λzh8=>?_))|refine SG (λzh8=>?_)|(refine zE ?_;refine SM ?_)|refine SX ?_|fail));(all_goals (repeat revert zh8));first|done|(exact zq9.h;done)|(exact zq9.h.1;exact zq9.h.2;done)|(exact zq9.h.1;exact zq9.h.2.1;exact zq9.h.2.2;done)|(exact zq9.h.1;exact zq9.h.2.1;exact zq9.h.2.2.1;exact zq9.h.2.2.2;done)|(exact zq9.h.1;exact zq9.h.2.1;exact zq9.h.2.2.1;exact zq9.h.2.2.2.1;exact zq9.h.2.2.2.2;done)|(exact zq9.h.1;exact zq9.h.2.1;exact zq9.h.2.2.1;exact zq9.h.2.2.2.1;exact zq9.h.2.2.2.2.1;exact zq9.h.2.2.2.2.2;done))):p:=h ⟨k⟩
theorem eN {f:Nat} {fn:Func} {body:Code} {args:List AV} {h0:List (Nat×xN)} {r:AV} {h1:List (Nat×xN)} (hf:prog.funcs[f]? =some fn) (able:cR prog f) (h:∀F:Fr (yD h0),F.ro=none/\F.it=false->uC prog F fn.ntmps body ⟨VD 0 args,h0⟩ (Fin TT fn.results.toList h0 r h1)) (hb:fn.body=some body:=by exact rfl) (hlen:Nat.ble args.length fn.ntmps=true:=by exact rfl) (hnd:vX h0=true:=by exact rfl) (hnd1:vX h1=true:=by exact rfl) (hgs:Nat.ble fn.ntmps GS=true:=by rfl):xO prog f args h0 r h1:=XM tok hf hb able hlen hnd hnd1 h hgs
theorem zK {TT:List TI} {rs:List ResultVar} {h0:List (Nat×xN)} {r:AV} {h1:List (Nat×xN)} {st:St} {vs:List AV} (h:NN TT st rs=some vs:=by exact rfl) (hK:(yD h0).all (([]:List Nat).contains ·)=true:=by exact rfl) (hr:XO (wN [] (zC st.h) (ED vs))=r:=by exact rfl) (hh:wS [] (zC st.h)=h1:=by exact rfl):Fin TT rs h0 r h1 .ret st:=zH [] h hK hr hh
structure zT2 (A B:Prop):Prop where
  mk::(a1:A) (b1:B)
theorem wW {A B:Prop} (a1:A) (b1:B):zT2 A B:=⟨a1,b1⟩
theorem ze2 {A B p:Prop} (z:zT2 A B) (h:A->B->p):p:=h z.a1 z.b1
structure zT3 (A B C:Prop):Prop where
  mk::(a1:A) (b1:B) (c1:C)
theorem gU {A B C:Prop} (a1:A) (b1:B) (c1:C):zT3 A B C:=⟨a1,b1,c1⟩
theorem ze3 {A B C p:Prop} (z:zT3 A B C) (h:A->B->C->p):p:=h z.a1 z.b1 z.c1
structure zT4 (A B C D:Prop):Prop where
  mk::(a1:A) (b1:B) (c1:C) (d1:D)
theorem aB {A B C D:Prop} (a1:A) (b1:B) (c1:C) (d1:D):zT4 A B C D:=⟨a1,b1,c1,d1⟩
theorem ze4 {A B C D p:Prop} (z:zT4 A B C D) (h:A->B->C->D->p):p:=h z.a1 z.b1 z.c1 z.d1
structure zT5 (A B C D E:Prop):Prop where
  mk::(a1:A) (b1:B) (c1:C) (d1:D) (e1:E)
theorem zt5 {A B C D E:Prop} (a1:A) (b1:B) (c1:C) (d1:D) (e1:E):zT5 A B C D E:=⟨a1,b1,c1,d1,e1⟩
theorem ze5 {A B C D E p:Prop} (z:zT5 A B C D E) (h:A->B->C->D->E->p):p:=h z.a1 z.b1 z.c1 z.d1 z.e1
structure zT6 (A B C D E F:Prop):Prop where
  mk::(a1:A) (b1:B) (c1:C) (d1:D) (e1:E) (f1:F)
theorem zt6 {A B C D E F:Prop} (a1:A) (b1:B) (c1:C) (d1:D) (e1:E) (f1:F):zT6 A B C D E F:=⟨a1,b1,c1,d1,e1,f1⟩
theorem ze6 {A B C D E F p:Prop} (z:zT6 A B C D E F) (h:A->B->C->D->E->F->p):p:=h z.a1 z.b1 z.c1 z.d1 z.e1 z.f1
structure zT7 (A B C D E F G:Prop):Prop where
  mk::(a1:A) (b1:B) (c1:C) (d1:D) (e1:E) (f1:F) (g1:G)
theorem zt7 {A B C D E F G:Prop} (a1:A) (b1:B) (c1:C) (d1:D) (e1:E) (f1:F) (g1:G):zT7 A B C D E F G:=⟨a1,b1,c1,d1,e1,f1,g1⟩
theorem ze7 {A B C D E F G p:Prop} (z:zT7 A B C D E F G) (h:A->B->C->D->E->F->G->p):p:=h z.a1 z.b1 z.c1 z.d1 z.e1 z.f1 z.g1
structure zT8 (A B C D E F G H:Prop):Prop where
  mk::(a1:A) (b1:B) (c1:C) (d1:D) (e1:E) (f1:F) (g1:G) (h1:H)
theorem zt8 {A B C D E F G H:Prop} (a1:A) (b1:B) (c1:C) (d1:D) (e1:E) (f1:F) (g1:G) (h1:H):zT8 A B C D E F G H:=⟨a1,b1,c1,d1,e1,f1,g1,h1⟩
theorem ze8 {A B C D E F G H p:Prop} (z:zT8 A B C D E F G H) (h:A->B->C->D->E->F->G->H->p):p:=h z.a1 z.b1 z.c1 z.d1 z.e1 z.f1 z.g1 z.h1
theorem yO {Y p q:Prop} (zc0:Y) (k:q) (h:Y->bS q->p:=by(intro zc0 zq9;(first|refine ze2 zc0 (λzc1 zc2=>?_)|refine ze3 zc0 (λzc1 zc2 zc3=>?_)|refine ze4 zc0 (λzc1 zc2 zc3 zc4=>?_)|refine ze5 zc0 (λzc1 zc2 zc3 zc4 zc5=>?_)|refine ze6 zc0 (λzc1 zc2 zc3 zc4 zc5 zc6=>?_)|refine ze7 zc0 (λzc1 zc2 zc3 zc4 zc5 zc6 zc7=>?_)|refine ze8 zc0 (λzc1 zc2 zc3 zc4 zc5 zc6 zc7 zc8=>?_));(repeat' (first|refine WZ ?_|refine SG (I2 (λzh8=>?_) (λzh8=>?_))|refine SG (λzh8=>?_)|(refine zE ?_;refine SM ?_)|refine SR ?_|refine SK (I2 (λzh8=>?_) (λzh8=>?_))|refine SK (λzh8=>?_)|fail));(all_goals (repeat revert zh8));first|done|(exact zq9.h;done)|(exact zq9.h.1;exact zq9.h.2;done)|(exact zq9.h.1;exact zq9.h.2.1;exact zq9.h.2.2;done)|(exact zq9.h.1;exact zq9.h.2.1;exact zq9.h.2.2.1;exact zq9.h.2.2.2;done)|(exact zq9.h.1;exact zq9.h.2.1;exact zq9.h.2.2.1;exact zq9.h.2.2.2.1;exact zq9.h.2.2.2.2;done)|(exact zq9.h.1;exact zq9.h.2.1;exact zq9.h.2.2.1;exact zq9.h.2.2.2.1;exact zq9.h.2.2.2.2.1;exact zq9.h.2.2.2.2.2;done))):p:=h zc0 ⟨k⟩
theorem zU {Y p q:Prop} (zc0:Y) (k:q) (h:Y->bS q->p:=by(intro zc1 zq9;(repeat' (first|refine WZ ?_|refine SG (I2 (λzh8=>?_) (λzh8=>?_))|refine SG (λzh8=>?_)|(refine zE ?_;refine SM ?_)|refine SR ?_|refine SK (I2 (λzh8=>?_) (λzh8=>?_))|refine SK (λzh8=>?_)|fail));(all_goals (repeat revert zh8));first|done|(exact zq9.h;done)|(exact zq9.h.1;exact zq9.h.2;done)|(exact zq9.h.1;exact zq9.h.2.1;exact zq9.h.2.2;done)|(exact zq9.h.1;exact zq9.h.2.1;exact zq9.h.2.2.1;exact zq9.h.2.2.2;done)|(exact zq9.h.1;exact zq9.h.2.1;exact zq9.h.2.2.1;exact zq9.h.2.2.2.1;exact zq9.h.2.2.2.2;done)|(exact zq9.h.1;exact zq9.h.2.1;exact zq9.h.2.2.1;exact zq9.h.2.2.2.1;exact zq9.h.2.2.2.2.1;exact zq9.h.2.2.2.2.2;done))):p:=h zc0 ⟨k⟩
theorem WLc {Y p q:Prop} (zc0:Y) (k:q) (h:Y->bS q->p:=by(intro zc0 zq9;(first|refine ze2 zc0 (λzc1 zc2=>?_)|refine ze3 zc0 (λzc1 zc2 zc3=>?_)|refine ze4 zc0 (λzc1 zc2 zc3 zc4=>?_)|refine ze5 zc0 (λzc1 zc2 zc3 zc4 zc5=>?_)|refine ze6 zc0 (λzc1 zc2 zc3 zc4 zc5 zc6=>?_)|refine ze7 zc0 (λzc1 zc2 zc3 zc4 zc5 zc6 zc7=>?_)|refine ze8 zc0 (λzc1 zc2 zc3 zc4 zc5 zc6 zc7 zc8=>?_));(repeat' (first|refine WY ?_|refine SG (I2 (λzh8=>?_) (λzh8=>?_))|refine SG (λzh8=>?_)|(refine zE ?_;first|refine SL ?_|refine SM ?_)|refine SB ?_|refine SR ?_|refine SK (I2 (λzh8=>?_) (λzh8=>?_))|refine SK (λzh8=>?_)|fail));(all_goals (repeat revert zh8));first|done|(exact zq9.h;done)|(exact zq9.h.1;exact zq9.h.2;done)|(exact zq9.h.1;exact zq9.h.2.1;exact zq9.h.2.2;done)|(exact zq9.h.1;exact zq9.h.2.1;exact zq9.h.2.2.1;exact zq9.h.2.2.2;done)|(exact zq9.h.1;exact zq9.h.2.1;exact zq9.h.2.2.1;exact zq9.h.2.2.2.1;exact zq9.h.2.2.2.2;done)|(exact zq9.h.1;exact zq9.h.2.1;exact zq9.h.2.2.1;exact zq9.h.2.2.2.1;exact zq9.h.2.2.2.2.1;exact zq9.h.2.2.2.2.2;done))):p:=h zc0 ⟨k⟩
theorem WLo {Y p q:Prop} (zc0:Y) (k:q) (h:Y->bS q->p:=by(intro zc1 zq9;(repeat' (first|refine WY ?_|refine SG (I2 (λzh8=>?_) (λzh8=>?_))|refine SG (λzh8=>?_)|(refine zE ?_;first|refine SL ?_|refine SM ?_)|refine SB ?_|refine SR ?_|refine SK (I2 (λzh8=>?_) (λzh8=>?_))|refine SK (λzh8=>?_)|fail));(all_goals (repeat revert zh8));first|done|(exact zq9.h;done)|(exact zq9.h.1;exact zq9.h.2;done)|(exact zq9.h.1;exact zq9.h.2.1;exact zq9.h.2.2;done)|(exact zq9.h.1;exact zq9.h.2.1;exact zq9.h.2.2.1;exact zq9.h.2.2.2;done)|(exact zq9.h.1;exact zq9.h.2.1;exact zq9.h.2.2.1;exact zq9.h.2.2.2.1;exact zq9.h.2.2.2.2;done)|(exact zq9.h.1;exact zq9.h.2.1;exact zq9.h.2.2.1;exact zq9.h.2.2.2.1;exact zq9.h.2.2.2.2.1;exact zq9.h.2.2.2.2.2;done))):p:=h zc0 ⟨k⟩
theorem WDc {Y p q:Prop} (zc0:Y) (k:q) (h:Y->bS q->p:=by(intro zc0 zq9;(first|refine ze2 zc0 (λzc1 zc2=>?_)|refine ze3 zc0 (λzc1 zc2 zc3=>?_)|refine ze4 zc0 (λzc1 zc2 zc3 zc4=>?_)|refine ze5 zc0 (λzc1 zc2 zc3 zc4 zc5=>?_)|refine ze6 zc0 (λzc1 zc2 zc3 zc4 zc5 zc6=>?_)|refine ze7 zc0 (λzc1 zc2 zc3 zc4 zc5 zc6 zc7=>?_)|refine ze8 zc0 (λzc1 zc2 zc3 zc4 zc5 zc6 zc7 zc8=>?_));(repeat' (first|refine WZ ?_|refine SG (I2 (λzh8=>?_) (λzh8=>?_))|refine SG (λzh8=>?_)|(refine zE ?_;refine SM ?_)|refine SX ?_|fail));(all_goals (repeat revert zh8));first|done|(exact zq9.h;done)|(exact zq9.h.1;exact zq9.h.2;done)|(exact zq9.h.1;exact zq9.h.2.1;exact zq9.h.2.2;done)|(exact zq9.h.1;exact zq9.h.2.1;exact zq9.h.2.2.1;exact zq9.h.2.2.2;done)|(exact zq9.h.1;exact zq9.h.2.1;exact zq9.h.2.2.1;exact zq9.h.2.2.2.1;exact zq9.h.2.2.2.2;done)|(exact zq9.h.1;exact zq9.h.2.1;exact zq9.h.2.2.1;exact zq9.h.2.2.2.1;exact zq9.h.2.2.2.2.1;exact zq9.h.2.2.2.2.2;done))):p:=h zc0 ⟨k⟩
theorem WDo {Y p q:Prop} (zc0:Y) (k:q) (h:Y->bS q->p:=by(intro zc1 zq9;(repeat' (first|refine WZ ?_|refine SG (I2 (λzh8=>?_) (λzh8=>?_))|refine SG (λzh8=>?_)|(refine zE ?_;refine SM ?_)|refine SX ?_|fail));(all_goals (repeat revert zh8));first|done|(exact zq9.h;done)|(exact zq9.h.1;exact zq9.h.2;done)|(exact zq9.h.1;exact zq9.h.2.1;exact zq9.h.2.2;done)|(exact zq9.h.1;exact zq9.h.2.1;exact zq9.h.2.2.1;exact zq9.h.2.2.2;done)|(exact zq9.h.1;exact zq9.h.2.1;exact zq9.h.2.2.1;exact zq9.h.2.2.2.1;exact zq9.h.2.2.2.2;done)|(exact zq9.h.1;exact zq9.h.2.1;exact zq9.h.2.2.1;exact zq9.h.2.2.2.1;exact zq9.h.2.2.2.2.1;exact zq9.h.2.2.2.2.2;done))):p:=h zc0 ⟨k⟩
theorem eM {f:Nat} {fn:Func} {body:Code} {args:List AV} {h0:List (Nat×xN)} {r:AV} {h1:List (Nat×xN)} (able:cR prog f) (h:∀F:Fr (yD h0),F.ro=none/\F.it=false->uC prog F fn.ntmps body ⟨VD 0 args,h0⟩ (Fin TT fn.results.toList h0 r h1)) (hf:prog.funcs[f]? =some fn:=by exact rfl) (hb:fn.body=some body:=by exact rfl) (hlen:Nat.ble args.length fn.ntmps=true:=by exact rfl) (hnd:vX h0=true:=by exact rfl) (hnd1:vX h1=true:=by exact rfl) (hgs:Nat.ble fn.ntmps GS=true:=by rfl):xO prog f args h0 r h1:=eN hf able h hb hlen hnd hnd1 hgs
abbrev zN:=xO prog
theorem CE {p:Prop} (h:p:=by(apply uN;(exact zK);simp only[qZ,zXu,zXi,zYm,zYy,zYr,zZs,yAt];omega)):p:=h
theorem AG {p:Prop} (h:p:=by(exfalso;omega)):p:=h
theorem zB {p:Prop} (h:p:=by omega):p:=h
def iA (n:Int):AV:= .s (.int .i64 n)
def yA (n:Int):AV:= .s (.int .u8 n)
def bA (b:Bool):AV:= .s (.bool b)
def zD {α:Type} (f:α->AV) (l:List α):AV:= .sl false (l.map f)
structure Cl where
 ag:Int
 id:Int
 ph:Int
 k:Int
 si:Int
structure Sv where
 ph:Int
 gr:Int
 en:List Int
structure Ph where
 ring:Int
 group:Int
 ming:Int
 maxg:Int
 yel:Int
 red:Int
 walk:Int
 clear:Int
structure Jn where
 ph:List Ph
 cf:List Int
 st:Int
structure Ag where
 sec:List Int
 rights:Int
 cls:Int
 lim:List Int
 req:Int
 ses:Int
 rate:Int
 burst:Int
structure Cf where
 js:List Jn
 ags:List Ag
 per:Int
 cap:Int
 hold:Int
 lock:Int
structure Tk where
 used:Bool
 sec:List Int
 par:Int
 rights:Int
 cls:Int
 til:Int
structure Vh where
 id:Int
 cls:Int
structure Bk where
 level:Int
 rate:Int
 burst:Int
structure Rg where
 num:Int
 ag:Ag
 tk:List Tk
 vh:List Vh
 bk:Bk
structure Ms where
 kind:Int
 tok:List Int
 args:List Int
 data:List Int
def dL (c:Cl):AV:= .agg [iA c.ag,iA c.id,iA c.ph,iA c.k,iA c.si]
def wX (s:Sv):AV:= .agg [iA s.ph,iA s.gr,zD iA s.en]
def wY (p:Ph):AV:= .agg [iA p.ring,iA p.group,iA p.ming,iA p.maxg,iA p.yel,iA p.red,iA p.walk,iA p.clear]
def wP (j:Jn):AV:= .agg [zD wY j.ph,zD iA j.cf,iA j.st]
def vH (a:Ag):AV:= .agg [zD yA a.sec,iA a.rights,iA a.cls,zD iA a.lim,iA a.req,iA a.ses,iA a.rate,iA a.burst]
def wT (c:Cf):AV:= .agg [zD wP c.js,zD vH c.ags,iA c.per,iA c.cap,iA c.hold,iA c.lock]
def xD (t:Tk):AV:= .agg [bA t.used,zD yA t.sec,iA t.par,iA t.rights,iA t.cls,iA t.til]
def vZ (v:Vh):AV:= .agg [iA v.id,iA v.cls]
def bkA (b:Bk):AV:= .agg [iA b.level,iA b.rate,iA b.burst]
def uW (r:Rg):AV:= .agg [iA r.num,zD yA r.ag.sec,iA r.ag.rights,iA r.ag.cls,zD iA r.ag.lim,iA r.ag.req,iA r.ag.ses,iA r.ag.rate,iA r.ag.burst,zD xD r.tk,zD vZ r.vh,iA r.bk.level,iA r.bk.rate,iA r.bk.burst]
def zY (m:Ms):AV:= .agg [iA m.kind,zD yA m.tok,zD iA m.args,zD yA m.data]
instance:Inhabited Tk:=⟨⟨false,[],-1,0,0,0⟩⟩
instance:Inhabited Vh:=⟨⟨0,0⟩⟩
instance:Inhabited Cl:=⟨⟨0,0,0,0,0⟩⟩
instance:Inhabited Ph:=⟨⟨0,0,0,0,0,0,0,0⟩⟩
instance:Inhabited Jn:=⟨⟨[],[],0⟩⟩
instance:Inhabited Ag:=⟨⟨[],0,0,[],0,0,0,0⟩⟩
theorem uN {TT:List TI} {rs:List ResultVar} {h0 h1:List (Nat×xN)} {e:Exit} {st:St} {b b':Bool} (h:Fin TT rs h0 (bA b') h1 e st) (hb:b'=b):Fin TT rs h0 (bA b) h1 e st:=hb▸h
theorem zM {α:Type} [Inhabited α] (f:α->AV) (l:List α) (i:Nat) (h:i<l.length):(l.map f)[i]? =some (f (l.getD i default)):=by simp[List.getD,h]
theorem yM {α:Type} [Inhabited α] (f:α->AV) (l:List α) (i:Int) (h0:0<=i) (h:i<l.length):(l.map f)[i.toNat]? =some (f (l.getD i.toNat default)):=zM f l _ (by omega)
def TY (k:IntKind) (n:Int):Int:=k.wrap (BitVec.ofInt k.bits (if k.signed=true then -1 else k.max) ^^^ BitVec.ofInt k.bits n).toNat
theorem RJ {P:Program} {st:St} {tx:Nat} {x:Operand} {k:IntKind} {n:Int} (hx:yL (zG st.tm) x= .s (.int k n)):wR P st (.unOp .xor tx x) (.s (.int k (TY k n))) [] [] []:=
 yQ λo X tm h w β a ho hg _ _ Ht=>by
  obtain⟨dst,op',type,pos,after,guard⟩:=o;dsimp only at ho;subst ho;have h1:=vI Ht hg (x:=x) uE hx;exact⟨.int k (TY k n),by simp[execOp,h1,Op.unary,Op.intBits,TY],.fz _ _ (.s _)⟩
def uA (n:Int):AV:= .s (.int .u32 n)
def NK (a b:Int):Int:=IntKind.u32.wrap (BitVec.ofInt IntKind.u32.bits a ^^^ BitVec.ofInt IntKind.u32.bits b).toNat
def zNv (a b:Int):Int:=IntKind.u32.wrap (BitVec.ofInt IntKind.u32.bits a &&& BitVec.ofInt IntKind.u32.bits b).toNat
def orU (a b:Int):Int:=IntKind.u32.wrap (BitVec.ofInt IntKind.u32.bits a ||| BitVec.ofInt IntKind.u32.bits b).toNat
def zVr (a:Int) (n:Nat):Int:=a.fdiv (2 ^ (min n IntKind.u32.bits))
def crS (r:Int):Int:=if zNv r 1=1 then NK (zVr r 1) 3988292384 else zVr r 1
def crN (r:Int):Nat->Int
 |0=>r
 |i+1=>crS (crN r i)
def crB (r x:Int):Int:=crN (NK r x) 8
def crF (r:Int) (l:List Int):Int:=l.foldl crB r
def dM (l:List Int):Int:=TY .u32 (crF (TY .u32 0) l)
theorem FY (r:Int) (l:List Int) (x:Int):crF r (l++[x])=crB (crF r l) x:=by simp[crF]
section
variable {P:Program} {tm:List (Nat×AV)} {h:List (Nat×xN)} {tx ty:Nat} {x y:Operand} {m n:Int}
theorem VA (hx:yL (zG tm) x= .s (.int .u32 m)) (hy:yL (zG tm) y= .s (.int .u32 n)):wR P ⟨tm,h⟩ (.binOp .and tx x y ty) (.s (.int .u32 (zNv m n))) [] [] []:=RN hx hy
theorem zNw (hx:yL (zG tm) x= .s (.int .u32 m)) (hy:yL (zG tm) y= .s (.int .u32 n)):wR P ⟨tm,h⟩ (.binOp .or tx x y ty) (.s (.int .u32 (orU m n))) [] [] []:=JY hx hy
end
theorem zSx (r:Int) (l:List Int) (hl:l.length<=1000000) (hb:BY l):xO prog 171 [uA r,zD yA l] [] (uA (TY .u32 (crF (TY .u32 r) l))) []:=by
 have hll:=zA yA l
 (refine eM call171 λF hF=>?_)
 (repeat' (first|refine qA ?_|refine xQ (λhc=>?_) (λhc=>?_)|refine wD (λhc=>?_)|(refine zE ?_;first|(refine PA ?_;refine xK (RJ rfl) rfl ?_))|fail))
 generalize TY .u32 r=r0 at*
 (refine yB (l) [] [] [11,12] [5,13,11,12] rfl (λi pre T U=>⟨(5,uA (crF r0 pre))::(13,iA i)::T,U⟩) ?_;(conv=>whnf);refine⟨by rfl,?_,?_⟩)
 ·intro i pre x post hx hi;have hy:=yP yA hx hi;have hlt:=yF hx hi;have hbx:=hb x (xV hx);rw[FY];clear hx;generalize crF r0 pre=q at*
  (refine WW ?_)
  (refine zP (8) [] [] [11,12,13] [5,21,11,12,13] rfl (λi T U=>⟨(5,uA (crN (NK q x) i))::(21,iA i)::T,U⟩) ?_;(conv=>whnf);refine⟨by rfl,?_,?_⟩)
  ·intro k hk;have e:crN (NK q x) (k+1)=crS (crN (NK q x) k):=rfl;rw[e];generalize crN (NK q x) k=z at *;unfold crS;by_cases hz:zNv z 1=1
   ·rw[zW9 hz]
    (repeat' (first|refine qA ?_|refine xQ (λhc=>?_) (λhc=>?_)|refine wD (λhc=>?_)|(refine zE ?_;first|(refine wZ ?_;refine xK (VA rfl rfl) rfl ?_))|fail))
    rfl
   ·rw[zW8 hz]
    (repeat' (first|refine qA ?_|refine xQ (λhc=>?_) (λhc=>?_)|refine wD (λhc=>?_)|(refine zE ?_;first|(refine wZ ?_;refine xK (VA rfl rfl) rfl ?_))|fail))
    rfl
  ·(refine WW ?_)
   rfl
 ·(repeat' (first|refine qA ?_|refine xQ (λhc=>?_) (λhc=>?_)|refine wD (λhc=>?_)|(refine zE ?_;first|(refine PA ?_;refine xK (RJ rfl) rfl ?_))|fail))
  exact zK
theorem zPs (l:List Int) (hl:l.length<=1000000) (hb:BY l):xO prog 128 [zD yA l] [] (uA (dM l)) []:=by
 have c:=zSx 0 l hl hb
 (refine eM call128 λF hF=>?_)
 (have zc1:=c;refine WW ?_;clear zc1)
 exact zK
theorem zNx (r:Int) (l:List Int) (hl:l.length<=1000000) (hb:BY l):xO prog 207 [uA r,zD yA l] [] (uA (TY .u32 (crF (TY .u32 r) l))) []:=by
 have hll:=zA yA l
 (refine eM call207 λF hF=>?_)
 (repeat' (first|refine qA ?_|refine xQ (λhc=>?_) (λhc=>?_)|refine wD (λhc=>?_)|(refine zE ?_;first|(refine PA ?_;refine xK (RJ rfl) rfl ?_))|fail))
 generalize TY .u32 r=r0 at*
 (refine yB (l) [] [] [11,12] [5,13,11,12] rfl (λi pre T U=>⟨(5,uA (crF r0 pre))::(13,iA i)::T,U⟩) ?_;(conv=>whnf);refine⟨by rfl,?_,?_⟩)
 ·intro i pre x post hx hi;have hy:=yP yA hx hi;have hlt:=yF hx hi;have hbx:=hb x (xV hx);rw[FY];clear hx;generalize crF r0 pre=q at*
  (refine WW ?_)
  (refine zP (8) [] [] [11,12,13] [5,21,11,12,13] rfl (λi T U=>⟨(5,uA (crN (NK q x) i))::(21,iA i)::T,U⟩) ?_;(conv=>whnf);refine⟨by rfl,?_,?_⟩)
  ·intro k hk;have e:crN (NK q x) (k+1)=crS (crN (NK q x) k):=rfl;rw[e];generalize crN (NK q x) k=z at *;unfold crS;by_cases hz:zNv z 1=1
   ·rw[zW9 hz]
    (repeat' (first|refine qA ?_|refine xQ (λhc=>?_) (λhc=>?_)|refine wD (λhc=>?_)|(refine zE ?_;first|(refine wZ ?_;refine xK (VA rfl rfl) rfl ?_))|fail))
    rfl
   ·rw[zW8 hz]
    (repeat' (first|refine qA ?_|refine xQ (λhc=>?_) (λhc=>?_)|refine wD (λhc=>?_)|(refine zE ?_;first|(refine wZ ?_;refine xK (VA rfl rfl) rfl ?_))|fail))
    rfl
  ·(refine WW ?_)
   rfl
 ·(repeat' (first|refine qA ?_|refine xQ (λhc=>?_) (λhc=>?_)|refine wD (λhc=>?_)|(refine zE ?_;first|(refine PA ?_;refine xK (RJ rfl) rfl ?_))|fail))
  exact zK
theorem zSy (l:List Int) (hl:l.length<=1000000) (hb:BY l):xO prog 183 [zD yA l] [] (uA (dM l)) []:=by
 have c:=zNx 0 l hl hb
 (refine eM call183 λF hF=>?_)
 (have zc1:=c;refine WW ?_;clear zc1)
 exact zK
theorem zSz (l:List Int):0<=dM l/\dM l<4294967296:=by
 unfold dM TY IntKind.wrap;simp[IntKind.signed,IntKind.bits];omega
def eX (p:Nat->Bool):Nat->Int
 |0=>0
 |n+1=>if p n=true then eX p n+p2 n else eX p n
theorem AH (p:Nat->Bool):∀n:Nat,n<=30->0<=eX p n/\eX p n<p2 n
 |0,_=>⟨zZf 0,by show(0:Int)<1;decide⟩
 | n+1,h=>by
  have ih:=AH p n (by omega)
  have h2:p2 ((n+1:Nat):Int)=2*p2 (n:Int):=by
   unfold p2;rw[zYs,zYs,yCh];omega
  have:=zP2 n (by omega);unfold eX
  split<;>omega
theorem cN {p q:Nat->Bool}:∀n:Nat,(∀i,i<n->p i=q i)->eX p n=eX q n
 |0,_=>rfl
 |n+1,h=>by unfold eX;rw[h n (by omega),cN n λi hi=>h i (by omega)]
def bq (b0 b1 b2 b3 b4 b5 b6 b7:Bool):Nat->Bool
 |0=>b0|1=>b1|2=>b2|3=>b3|4=>b4|5=>b5|6=>b6|7=>b7|_=>false
theorem zVs:∀b0 b1 b2 b3 b4 b5 b6 b7:Bool,∀i:_root_.Fin 8,(fV (vR (eX (bq b0 b1 b2 b3 b4 b5 b6 b7) 8) i.val) 1==1)=bq b0 b1 b2 b3 b4 b5 b6 b7 i.val:=by decide +kernel
theorem zNy (p:Nat->Bool) (i:Nat) (hi:i<8):(fV (vR (eX p 8) i) 1==1)=p i:=by
 have e:∀j,j<8->p j=bq (p 0) (p 1) (p 2) (p 3) (p 4) (p 5) (p 6) (p 7) j:=λj hj=>by
  match j,hj with
  |0,_=>rfl|1,_=>rfl|2,_=>rfl|3,_=>rfl|4,_=>rfl|5,_=>rfl|6,_=>rfl|7,_=>rfl
  |j+8,h=>omega
 rw[cN 8 e,e i hi];exact zVs _ _ _ _ _ _ _ _ ⟨i,hi⟩
def bsN (p:Nat->Bool):Nat->Nat
 |0=>0
 |n+1=>if p n=true then bsN p n+2 ^ n else bsN p n
theorem FZ (p:Nat->Bool):∀n,eX p n=(bsN p n:Int)
 |0=>rfl
 |n+1=>by
  unfold eX bsN;rw[FZ p n];split
  ·unfold p2;simp
  ·rfl
theorem QX (p:Nat->Bool):∀n,bsN p n<2 ^ n
 |0=>(show 0<1 by omega)
 |n+1=>by
  have:=QX p n;unfold bsN;rw[Nat.pow_succ]
  split<;>omega
theorem bE (p:Nat->Bool):∀n i,(bsN p n).testBit i=(decide (i<n)&&p i)
 |0,i=>by simp[bsN]
 | n+1,i=>by
  have hlt:=QX p n;unfold bsN
  rcases Nat.lt_trichotomy i n with h|h|h
  ·rw[zXg (by omega),zX1];split
   ·rw[Nat.add_comm,Nat.testBit_two_pow_add_gt h,bE p n i,zXg h,zX1]
   ·rw[bE p n i,zXg h,zX1]
  ·subst h;rw[zXg (by omega),zX1];split
   ·rename_i hp;rw[Nat.add_comm,Nat.testBit_two_pow_add_eq,bE p i i,zXj (by omega),hp];rfl
   ·rename_i hp;rw[bE p i i,zXj (by omega)];simpa using hp
  ·rw[zXj (by omega),zY2];refine Nat.testBit_lt_two_pow ?_;have h2:2 ^ (n+1)<=2 ^ i:=yA9 (by omega) (by omega);rw[Nat.pow_succ]at h2
   split<;>omega
theorem KX (a b:Nat) (ha:a<2 ^ 30) (hb:b<2 ^ 30):orI a b=((a ||| b:Nat):Int):=by
 have h:=yCw ha hb;unfold orI;rw[yAm,yAm,yC1,yAl,yAl];have e:(2:Nat) ^ IntKind.i64.bits=18446744073709551616:=by decide
 rw[e,zZt (by omega),zZt (by omega)];exact qT (k:= .i64) (by unfold YI;omega)
theorem zS0 (p q:Nat->Bool):orI (eX p 8) (eX q 8)=eX (λi=>p i||q i) 8:=by
 have h1:=QX p 8;have h2:=QX q 8;rw[FZ,FZ,FZ,KX _ _ (by omega) (by omega)]
 congr 1
 apply Nat.eq_of_testBit_eq;intro i;rw[yDa,bE,bE,bE]
 cases decide (i<8)<;>simp
theorem zBg (n:Int) (h0:0<=n) (h1:n<=200):xO prog 127 [iA n] [] (iA (6+n+4)) []:=by
 (refine eM call127 λF hF=>?_)
 (refine WW ?_)
 exact zK
def NL (l:List Int):Int:=l.foldl (λn x=>orU (IntKind.u32.wrap (n*2 ^ (min (8:Int).toNat IntKind.u32.bits))) x) 0
theorem zId (l:List Int) (hl:l.length<=1000000) (hb:BY l):xO prog 172 [zD yA l] [] (uA (NL l)) []:=by
 have hll:=zA yA l
 (refine eM call172 λF hF=>?_)
 (refine WW ?_)
 (refine yB (l) [] [] [6,7] [3,8,6,7] rfl (λi pre T U=>⟨(3,uA (NL pre))::(8,iA i)::T,U⟩) ?_;(conv=>whnf);refine⟨by rfl,?_,?_⟩)
 ·intro i pre x post hx hi;have hy:=yP yA hx hi;have hlt:=yF hx hi;have hbx:=hb x (xV hx);rw[show NL (pre++[x])=orU (IntKind.u32.wrap (NL pre*2 ^ (min (8:Int).toNat IntKind.u32.bits))) x by simp[NL]];clear hx;generalize NL pre=q at*
  (repeat' (first|refine qA ?_|refine xQ (λhc=>?_) (λhc=>?_)|refine wD (λhc=>?_)|(refine zE ?_;first|(refine wZ ?_;refine xK (zNw rfl rfl) rfl ?_))|fail))
  rfl
 ·(refine WW ?_)
  exact zK
def NM (s:Int):List Int:=(List.range 4).map λi:Nat=>IntKind.u8.wrap (s.fdiv (2 ^ (min (8*(3-(i:Int))).toNat IntKind.u32.bits)))
def dW (k:Int) (n:Nat):List Int:=[1,k,0,(n:Int)]
def HF (k:Int) (p:List Int):List Int:=90::165::(dW k p.length++p)++NM (dM (dW k p.length++p))
theorem zWw (n:Nat) (z a b c d e f:AV) (ys:List AV) (hy:ys.length=n):((((((List.replicate (n+10) z).set 0 a).set 1 b).set 2 c).set 3 d).set 4 e).set 5 f=a::b::c::d::e::f::List.replicate (n+4) z:=by
 rw[show n+10=n+4+1+1+1+1+1+1 by omega];simp[yAu]
theorem zIe (A B:List Int) (z:Int) (i:Nat) (hi:i<B.length):(A++B.take i++List.replicate (B.length-i) z).set (A.length+i) (B.getD i default)=A++B.take (i+1)++List.replicate (B.length-(i+1)) z:=by
 have h1:(A++B.take i).length=A.length+i:=by rw[zXb,zXw];omega
 rw[show B.length-i=B.length-(i+1)+1 by omega,yAu,yAb _ _ (by omega),h1,zZo,yBk,zXh,zXr hi,yAg hi];simp only[zXy,zZx,zZj,zZg]
theorem zNz (s:Int):(NM s).length=4:=rfl
section
variable {P:Program} {TT:List TI} {K0:List Nat} {F:Fr K0} {m:Nat} {ops:Array Oper} {rest:List Oper} {Q:List FP->St->Prop} {tm:List (Nat×AV)} {h:List (Nat×xN)} {dr:Bool} {fs:List FP} {ty:Nat} {pos:String} {after:Array Edge} {t:Nat}
theorem zIf (hP:uL P TT) {T e key len sz:Nat} {x l r:Operand} {ti te:TI} {xs:List AV} {sl:Fl} {k1 k2:IntKind} {i j:Int} (hx:yL (zG tm) x= .ref key 0 len) (hk:zC h key=some (.arr sz xs sl)) (hl:yL (zG tm) l= .s (.int k1 i)) (hr:yL (zG tm) r= .s (.int k2 j)) (hT:TT[T]? =some ti) (hd:ti.d= .slice e) (he:TT[e]? =some te)
  (hsz:Nat.beq sz te.size=true) (a b:Nat) (ha:i=a) (hb:j=b) (h0:a<=b) (h1:b<=len) (hm:Nat.blt t m=true) (hq:zZ P F m ops dr rest ⟨(t,.ref key a (b-a))::tm,h⟩ (⟨true,[],[key]⟩::fs) Q):
  zZ P F m ops dr (⟨some t,.slice T x (some l) (some r) none,ty,pos,after,none⟩::rest) ⟨tm,h⟩ fs Q:=by
 have:=gX (P:=P) (st:=⟨tm,h⟩) (lo:=some l) (hi:=some r) (l:=a) (r:=b) hP hx hk hT hd he ⟨k1,i,hl,by omega⟩ ⟨k2,j,hr,by omega⟩ h0 h1 hsz;rw[zYe]at this;exact xK this hm hq
end
def fr6 (k:Int) (p:List Int):List AV:=((((((List.replicate (p.length+10) (yA 0)).set 0 (yA 90)).set 1 (yA 165)).set 2 (yA 1)).set 3 (yA k)).set 4 (.s (.int .u8 (IntKind.u8.wrap (vR (((p.map yA).length:Nat):Int) 8))))).set 5 (.s (.int .u8 (((p.map yA).length:Nat):Int)))
def fr7 (k:Int) (p:List Int):List AV:=(fr6 k p).take 6++p.map yA++(fr6 k p).drop (6+(p.map yA).length)
def EA (k:Int) (p:List Int) (i:Nat):List Int:=(90::165::(dW k p.length++p))++(NM (dM (dW k p.length++p))).take i++List.replicate (4-i) 0
theorem zS1 (k:Int) (p:List Int) (hp:p.length<=200):fr7 k p=(EA k p 0).map yA:=by
 have h1:IntKind.u8.wrap (vR (((p.map yA).length:Nat):Int) 8)=0:=by
  have:vR (((p.map yA).length:Nat):Int) 8=0:=by
   unfold vR;rw[zXa,zZm _ xL]
   show(p.length:Int)/256=0
   omega
  rw[this];rfl
 have h2:fr6 k p=yA 90::yA 165::yA 1::yA k::yA 0::yA p.length::List.replicate (p.length+4) (yA 0):=by
  unfold fr6;rw[h1,zXa];exact zWw p.length (yA 0) _ _ _ _ _ _ (p.map yA) (zXa ..)
 unfold fr7 EA dW;rw[h2,zXa];simp only[yBw,yAc,zZx,zZj,zYi,zXf,zX8,yA0,yB4,zXy];rw[show 6+p.length=p.length+1+1+1+1+1+1 by omega];simp only[yAo,List.drop_replicate];rw[show p.length+4-p.length=4 by omega]
theorem zPt {k:Int} {p:List Int} (k0:0<=k) (k1:k<=255) (hb:BY p) (hp:p.length<=200):BY (dW k p.length++p):=by
 intro x hx
 rcases zXs.1 hx with hx|hx
 ·unfold dW at hx;simp only[zYq,yBd,yCo]at hx;omega
 ·exact hb x hx
theorem zS2 (k:Int) (p:List Int) (k0:0<=k) (k1:k<=255) (hb:BY p) (hp:p.length<=200):xO prog 73 [iA k,zD yA p] [] (.tup [zD yA (HF k p),iA 0]) []:=by
 have hlp:=zA yA p;have kz:=zBg ((p.map yA).length) (by omega) (by omega);have hh:∀y,(p.map yA)[0]? =some y->y.cells.length=1:=xH _ _ (λ_=>rfl);have hnn:6+((p.map yA).length:Int)+4=((p.length+10:Nat):Int):=by omega
 rw[hnn]at kz;have hX:=zS1 k p hp;have hdb:=zPt k0 k1 hb hp
 have kc:xO prog 128 [.sl false (((fr7 k p).drop 2).take (6+p.length-2))] [] (uA (dM (dW k p.length++p))) []:=by
  rw[hX,<-yA4,<-yA5]
  have e:((EA k p 0).drop 2).take (6+p.length-2)=dW k p.length++p:=by
   unfold EA;rw[yAc,zX8,zZx,zZx,yAo,yAo,zYf];exact yC5 (by unfold dW;simp;omega)
  rw[e];exact zPs _ (by unfold dW;simp;omega) hdb
 unfold fr7 fr6 at kc hX;unfold HF;have hbl:=zNz (dM (dW k p.length++p))
 have hfl:∀i,i<4->(EA k p (i+1)).map yA=((EA k p i).map yA).set (p.length+6+i) (yA ((NM (dM (dW k p.length++p))).getD i default)):=λi hi=>by
  have h1:=zIe (90::165::(dW k p.length++p)) (NM (dM (dW k p.length++p))) 0 i (by rw[hbl];exact hi);rw[hbl,show(90::165::(dW k p.length++p)).length+i=p.length+6+i by simp[dW]<;>omega]at h1;unfold EA;rw[<-h1,zZh]
 (refine eM call73 λF hF=>?_)
 (have zc1:=kz;have zc2:=kc;(repeat' (first|refine qA ?_|refine xQ (λhc=>?_) (λhc=>?_)|refine wD (λhc=>?_)|(refine zE ?_;first|refine SM ?_|(refine qU ?_;first|refine gY tok rfl rfl rfl rfl rfl rfl rfl (by omega) (by omega) rfl ?_|refine zIf tok rfl rfl rfl rfl rfl rfl rfl rfl 2 (6+p.length) rfl (by omega) (by omega) (by omega) rfl ?_)|(refine uG (OA tok rfl rfl rfl rfl rfl rfl rfl hh rfl (by show _<=p.length+4;omega)) rfl rfl rfl ?_))|fail))<;>clear zc1 zc2)
 (refine zP (4) [23] [] [6,7,8] [52,6,7,8] rfl (λi T U=>⟨(52,iA i)::T,(23,.arr 1 ((EA k p i).map yA) false)::U⟩) ?_;(conv=>whnf);refine⟨by(rw[<-hX];rfl),?_,?_⟩)
 ·intro i hi;have e:=hfl i hi
  have hbe:(NM (dM (dW k p.length++p))).getD i default=IntKind.u8.wrap ((dM (dW k p.length++p)).fdiv (2 ^ (min (8*(3-(i:Int))).toNat IntKind.u32.bits))):=by
   unfold NM;rw[zXh,zXd,zX6 hi];rfl
  rw[hbe,show p.length+6+i=(6+(p.length:Int)+i).toNat by omega]at e;rw[e];clear hfl hX kc e hbe
  have hlen:((EA k p i).map yA).length=p.length+10:=by
   unfold EA;simp[dW,NM];omega
  have hy:((EA k p i).map yA)[(6+(p.length:Int)+i).toNat]? =some (yA ((EA k p i).getD (6+(p.length:Int)+i).toNat default)):=zM yA _ _ (by rw[zXa]at hlen;omega);generalize (EA k p i).getD (6+(p.length:Int)+i).toNat default=y0 at *;rw[<-hlp]at hy⊢;generalize dM (dW k p.length++p)=s at *;generalize (EA k p i).map yA=X at*
  (refine WW ?_)
  rfl
 ·(refine WW ?_)
  refine zH [] rfl rfl ?_ rfl
  show AV.tup [.sl false (List.take (p.length+10) ((EA k p 4).map yA)),iA 0]=_
  have e:EA k p 4=90::165::(dW k p.length++p)++NM (dM (dW k p.length++p)):=by
   unfold EA;rw[zXk (by rw[hbl];omega),zZo,yBv,zX8]
  rw[e,zXk (by rw[zXa];simp[dW,NM]<;>omega)];rfl
theorem zN0 (v n : Int) (h1 : 1 ≤ n) : -n < v.tmod n ∧ v.tmod n < n ∧ v % n=if v.tmod n<0 then v.tmod n+n else v.tmod n:=by
  have e0:=yA2 v (show n≠0 by omega);have e1:=yAs v (show 0<n by omega)
  have e2 : v.tmod n = if 0 ≤ v ∨ n ∣ v then v % n else v % n - n := by rw[Int.tmod_eq_emod];have:(n.natAbs:Int)=n:=by omega
                                                                        split<;>omega
  rw[e2];split
  · refine⟨by omega,by omega,?_⟩;rw[zW8 (by omega)]
  · rename_i hd;have:v % n≠0:=λh=>hd (.inr (Int.dvd_of_emod_eq_zero h))
    refine⟨by omega,by omega,?_⟩;rw[zW9 (by omega)];omega
theorem zBh (v n:Int) (h1:1<=n) (h2:n<=1099511627776):xO prog 16 [iA v,iA n] [] (iA (v % n)) []:=by
 obtain⟨b1,b2,e⟩:=zN0 v n h1;by_cases h:v.tmod n<0
 ·rw[e,zW9 h]
  (refine eM call16 λF hF=>?_)
  (repeat' (first|refine ZV ?_|refine xQ (λhc=>?_) (λhc=>?_)|fail))
  exact zK
 ·rw[e,zW8 h]
  (refine eM call16 λF hF=>?_)
  (repeat' (first|refine ZV ?_|refine xQ (λhc=>?_) (λhc=>?_)|fail))
  exact zK
structure Dk where
 l:List Int
 a:Nat
 h:a<=l.length
 hl:l.length<=9223372036854775807
def dX (d:Dk):xN:= .box [zD iA d.l,iA d.a]
def nx (d:Dk) (n:Int):Int:=if d.a<d.l.length then d.l.getD d.a 0 % n else 0
def ad (d:Dk):Dk:=if h:d.a<d.l.length then⟨d.l,d.a+1,h,d.hl⟩else d
theorem yE (d:Dk) (n:Int) (h1:1<=n):0<=nx d n/\nx d n<n:=by
 unfold nx;split
 ·exact⟨yA2 _ (by omega),yAs _ (by omega)⟩
 ·omega
theorem zPu (l:List Int) (hl:l.length<=9223372036854775807):xO prog 11 [zD iA l] [] (.ptr 1000 0 0) [(1000,dX ⟨l,0,zXp _,hl⟩)]:=by
 (refine eM call11 λF hF=>?_)
 repeat' (first|refine vK tok rfl rfl ?_|(first|refine xS ?_|refine yZ ?_|refine vA rfl ?_|refine zX rfl ?_|refine zQ rfl ?_|refine xJ rfl (λhc=>?_) (λhc=>?_)|refine yX ?_|refine yU ?_|refine xA ?_|refine yS ?_)|refine qC ?_|refine uG (kX (v:= .agg _) 1000 rfl rfl) rfl rfl rfl ?_)
 exact zL [1000] rfl rfl rfl rfl
theorem yI (d:Dk) (n:Int) (h1:1<=n) (h2:n<=1099511627776):xO prog 22 [.ptr 1000 0 0,iA n] [(1000,dX d)] (iA (nx d n)) [(1000,dX (ad d))]:=by
 have hl:(d.l.map iA).length=d.l.length:=by simp
 have hb:=d.hl;by_cases h:d.a<d.l.length
 ·have hy:=yM iA d.l ((d.a:Int)+1-1) (by omega) (by omega);rw[show nx d n=d.l.getD ((d.a:Int)+1-1).toNat 0 % n by unfold nx;rw[zW9 h,show((d.a:Int)+1-1).toNat=d.a by omega]];rw[show ad d=⟨d.l,d.a+1,h,d.hl⟩ by unfold ad;rw[yCn h]]
  (refine eM call22 λF hF=>?_)
  (repeat' (first|refine ZV ?_|refine xQ (λhc=>?_) (λhc=>?_)|(refine zE ?_;refine wB ?_;refine xK (zI (zBh _ _ h1 h2) rfl rfl rfl rfl rfl) rfl ?_)|fail))
  exact zL [1000] rfl rfl rfl rfl
 ·rw[show nx d n=0 by unfold nx;rw[zW8 h],show ad d=d by unfold ad;rw[dif_neg h]]
  (refine eM call22 λF hF=>?_)
  (repeat' (first|refine ZV ?_|refine xQ (λhc=>?_) (λhc=>?_)|(refine zE ?_;refine wB ?_;refine xK (zI (zBh _ _ h1 h2) rfl rfl rfl rfl rfl) rfl ?_)|fail))
  exact zL [1000] rfl rfl rfl rfl
theorem kN (d:Dk) (lo hi:Int) (h1:0<=lo) (h2:lo<=hi) (h3:hi<=1000000000):xO prog 37 [.ptr 1000 0 0,iA lo,iA hi] [(1000,dX d)] (iA (lo+nx d (hi-lo+1))) [(1000,dX (ad d))]:=by
 have hb:=yE d (hi-lo+1) (by omega)
 (refine eM call37 λF hF=>?_)
 (repeat' (first|refine ZV ?_|refine xQ (λhc=>?_) (λhc=>?_)|(refine zE ?_;refine wB ?_;refine uG (zI (yI d _ (by omega) (by omega)) rfl rfl rfl rfl rfl) rfl rfl rfl ?_)|fail))
 exact zL [1000] rfl rfl rfl rfl
structure Lg where
 jn:Int
 ph:Int
 fr:Int
 to:Int
 sc:Int
structure Rq where
 id:Int
 vh:Int
 cls:Int
 til:Int
 legs:List Lg
instance:Inhabited Lg:=⟨⟨0,0,0,0,0⟩⟩
instance:Inhabited Rq:=⟨⟨0,0,0,0,[]⟩⟩
def xU (l:Lg):AV:= .agg [iA l.jn,iA l.ph,iA l.fr,iA l.to,iA l.sc]
def yK (r:Rq):AV:= .agg [iA r.id,iA r.vh,iA r.cls,iA r.til,zD xU r.legs]
def plB (j p:Int):Bool:=decide (0<=j/\j<4/\0<=p/\p<8)
def mwB (j p f t now:Int):Bool:=decide (0<=j/\j<4/\0<=p/\p<8/\0<=now/\now<=1073741824/\0<=f/\f<=t/\t<=600)
def mwF (j p f t now:Int):Lg:=if mwB j p f t now=true then⟨j,p,now+f,now+t,-1⟩else⟨0,0,0,0,0⟩
def KY (l:Lg):Bool:=decide (0<=l.jn/\l.jn<4/\0<=l.ph/\l.ph<8/\0<=l.fr/\l.fr<=l.to/\l.to<=2147483648/\ -1<=l.sc/\l.sc<=1073741824)
def liB (l:Lg) (now:Int):Bool:=decide (l.fr<=now/\now<=l.to)
def aV (l:Lg) (now:Int):Lg:=if liB l now=true then(if l.sc= -1 then⟨l.jn,l.ph,l.fr,l.to,now⟩else l)else⟨l.jn,l.ph,l.fr,l.to,-1⟩
theorem zBi (j p:Int):xO prog 289 [iA j,iA p] [] (bA (plB j p)) []:=by
 (cases hb:plB j p with|false=>((refine eM call289 λF hF=>?_);((refine WW (I4 (λhc hc hc=>?_) (λhc hc hc=>?_) (λhc hc=>?_) (λhc=>?_))));all_goals (first|exact zK|(simp only[plB,zXu]at hb;first|(exfalso;omega)|(apply uN;(exact zK);simp only[qZ,zXu,zXi,zYm,zYy,zYr,zZs,yAt];omega))))|true=>(simp only[plB,zXi]at hb;(refine eM call289 λF hF=>?_);((refine WW ?_));all_goals (first|exact zK|(exfalso;omega)|(apply uN;(exact zK);simp only[qZ,zXu,zXi,zYm,zYy,zYr,zZs,yAt];omega))))
theorem zBj (j p f t now:Int):xO prog 267 [iA j,iA p,iA f,iA t,iA now] [] (.tup [xU (mwF j p f t now),iA (if mwB j p f t now=true then 0 else 8)]) []:=by
 have c1:=zBi j p;unfold mwF
 cases hb:mwB j p f t now with
 | false=>
  rw[zW8 zXx,zW8 zXx];unfold mwB at hb;rw[zXu]at hb;unfold plB at c1;unfold xU;by_cases hp:0<=j/\j<4/\0<=p/\p<8
  ·rw[zXg hp]at c1
   (refine eM call267 λF hF=>?_)
   (have zc1:=c1;refine WW (I5 (λhc=>?_) (λhc hc=>?_) (λhc hc hc=>?_) (λhc hc hc hc=>?_) (λhc hc hc hc=>?_))<;>clear zc1)
   all_goals (first|exact zK|(exfalso;omega))
  ·rw[zXj hp]at c1
   (refine eM call267 λF hF=>?_)
   (have zc1:=c1;refine WW ?_;clear zc1)
   all_goals (first|exact zK|(exfalso;omega))
 |true=>
  rw[zW9 rfl,zW9 rfl];unfold mwB at hb;rw[zXi]at hb;unfold plB at c1;rw[zXg (by omega)]at c1;unfold xU
  (refine eM call267 λF hF=>?_)
  (have zc1:=c1;refine WW ?_;clear zc1)
  exact zK
theorem zIg (l:Lg) (now:Int):xO prog 219 [xU l,iA now] [] (bA (liB l now)) []:=by
 (cases hb:liB l now with|false=>((refine eM call219 λF hF=>?_);((refine WW (I2 (λhc=>?_) (λhc=>?_))));all_goals (first|exact zK|(simp only[liB,zXu]at hb;first|(exfalso;omega)|(apply uN;(exact zK);simp only[qZ,zXu,zXi,zYm,zYy,zYr,zZs,yAt];omega))))|true=>(simp only[liB,zXi]at hb;(refine eM call219 λF hF=>?_);((refine WW ?_));all_goals (first|exact zK|(exfalso;omega)|(apply uN;(exact zK);simp only[qZ,zXu,zXi,zYm,zYy,zYr,zZs,yAt];omega))))
theorem gV (l:Lg) (now:Int):xO prog 194 [xU l,iA now] [] (xU (aV l now)) []:=by
 have c:=zIg l now;unfold aV;generalize liB l now=b at*
 cases b with
 |false=>
  rw[zW8 zXx];unfold xU at*
  (refine eM call194 λF hF=>?_)
  (have zc1:=c;refine WW ?_;clear zc1)
  exact zK
 | true=>
  rw[zW9 rfl];by_cases h:l.sc= -1
  ·rw[zW9 h];unfold xU at*
   (refine eM call194 λF hF=>?_)
   (have zc1:=c;refine WW ?_;clear zc1)
   exact zK
  ·rw[zW8 h];unfold xU at*
   (refine eM call194 λF hF=>?_)
   (have zc1:=c;refine WW ?_;clear zc1)
   exact zK
theorem zIh (l:Lg):xO prog 306 [xU l] [] (bA (KY l)) []:=by
 have c1:=zBi l.jn l.ph
 cases hb:KY l with
 | false=>
  unfold KY at hb;rw[zXu]at hb;unfold plB at c1;by_cases hp:0<=l.jn/\l.jn<4/\0<=l.ph/\l.ph<8
  ·rw[zXg hp]at c1
   (refine eM call306 λF hF=>?_)
   (have zc1:=c1;refine WW (I5 (λhc hc hc hc=>?_) (λhc hc hc hc=>?_) (λhc hc hc=>?_) (λhc hc=>?_) (λhc=>?_))<;>clear zc1)
   all_goals (first|exact zK|(exfalso;omega)|(apply uN;(exact zK);simp only[qZ,zXu,zXi,zYm,zYy,zYr,zZs,yAt];omega))
  ·rw[zXj hp]at c1
   (refine eM call306 λF hF=>?_)
   (have zc1:=c1;refine WW ?_;clear zc1)
   all_goals (first|exact zK|(exfalso;omega)|(apply uN;(exact zK);simp only[qZ,zXu,zXi,zYm,zYy,zYr,zZs,yAt];omega))
 |true=>
  unfold KY at hb;rw[zXi]at hb;unfold plB at c1;rw[zXg (by omega)]at c1
  (refine eM call306 λF hF=>?_)
  (have zc1:=c1;refine WW ?_;clear zc1)
  all_goals (first|exact zK|(exfalso;omega)|(apply uN;(exact zK);simp only[qZ,zXu,zXi,zYm,zYy,zYr,zZs,yAt];omega))
def fQ:List Lg->List Lg->Bool
 |_,[]=>true
 |pre,x::post=>KY x&&(!(pre.any λy=>y.jn==x.jn)&&fQ (pre++[x]) post)
def vgF (l:List Lg):Bool:=decide (1<=(l.length:Int)/\(l.length:Int)<=3)&&fQ [] l
theorem zN1 {pre post:List Lg} {x:Lg} (h:KY x=false):fQ pre (x::post)=false:=by simp[fQ,h]
theorem zN2 {pre post:List Lg} {x y:Lg} (hy:y∈pre) (h:y.jn=x.jn):fQ pre (x::post)=false:=by
 have:(pre.any λy=>y.jn==x.jn)=true:=zYv.2 ⟨y,hy,by simpa using h⟩;simp[fQ,this]
theorem zDm {pre post:List Lg} {x:Lg} (h:KY x=true) (hn:∀y∈pre,y.jn≠x.jn):fQ pre (x::post)=fQ (pre++[x]) post:=by
 have:(pre.any λy=>y.jn==x.jn)=false:=by simpa using hn
 simp[fQ,h,this]
theorem zBk (l:List Lg):xO prog 292 [zD xU l] [] (bA (vgF l)) []:=by
 have hl:=zA xU l;unfold vgF;by_cases h3:1<=(l.length:Int)/\(l.length:Int)<=3
 case neg=>
  rw[zXj h3,zY2];by_cases h1:1<=(l.length:Int)
  ·(refine eM call292 λF hF=>?_)
   (refine WW ?_)
   exact zK
  ·(refine eM call292 λF hF=>?_)
   (refine WW ?_)
   exact zK
 rw[zXg h3,zX1];obtain⟨h1,h3⟩:=h3
 (refine eM call292 λF hF=>?_)
 (refine WW ?_)
 (refine kJ (l) [] [] [0,15,16] [17,0,15,16] rfl (λi pre T U zs=>(∀post,l=pre++post->fQ [] l=fQ pre post)/\zs=⟨(17,iA i)::T,U⟩) ?_;(conv=>whnf);refine⟨?_,?_,?_⟩)
 ·exact⟨λpost h=>by rw[h];rfl,rfl⟩
 ·rintro i pre x post st hx hi ⟨hp,rfl⟩;have hy:=yP xU hx hi;have hlt:=yF hx hi;rw[hp _ hx];have cv:=zIh x
  have hnext:KY x=true->(∀y∈pre,y.jn≠x.jn)->∀p,l=(pre++[x])++p->fQ pre (x::post)=fQ (pre++[x]) p:=λa b p h=>by
   have e:p=post:=by rw[hx,zXy]at h;simpa using h.symm
   rw[e];exact zDm a b
  cases hv:KY x with
  |false=>
   rw[zN1 hv];rw[hv]at cv;clear hx hp hnext
   (have zc1:=cv;refine WW ?_;clear zc1)
   exact zK
  | true=>
   rw[hv]at cv;have ht:l.take i=pre:=by rw[hx,<-hi];simp
   have hl2:(List.map xU (List.take (i:Int).toNat l)).length=(l.take i).length:=zA xU (l.take i);have hl3:(l.take i).length=i:=by rw[ht];exact hi
   (have zc1:=cv;refine WW ?_;clear zc1)
   (refine kJ (l.take i) [4] [4] [0,4,15,16,17,27,28] [29,0,4,15,16,17,27,28] rfl (λi pre T U zs=>(∀y∈pre,y.jn≠x.jn)/\zs=⟨(29,iA i)::T,U⟩) ?_;(conv=>whnf);refine⟨?_,?_,?_⟩)
   ·exact⟨by simp,rfl⟩
   ·rintro k pr y po st2 hq hk ⟨hp2,rfl⟩;have hy2:=yP xU hq hk;have hlt2:=yF hq hk;by_cases he:y.jn=x.jn
    ·rw[zN2 (by rw[<-ht,hq];simp) he];clear hq hx hp hnext
     (refine WW ?_)
     exact zK
    ·have hp3:∀z∈pr++[y],z.jn≠x.jn:=λz hz=>by
      simp only[zXs,zX9]at hz
      rcases hz with hz|rfl
      ·exact hp2 z hz
      ·exact he
     clear hq hx hp hnext
     (refine WW ?_)
     exact⟨hp3,rfl⟩
   ·rintro st2 ⟨hp2,rfl⟩;have hnx:=hnext hv (by rw[<-ht];exact hp2);clear hx hp hnext
    (refine WW ?_)
    exact⟨hnx,rfl⟩
 ·rintro st ⟨hp,rfl⟩;rw[hp [] zS]
  (refine WW ?_)
  exact zK
structure RqO (r:Rq):Prop where
 i0:0<=r.id
 i1:r.id<=4294967295
 v0:0<=r.vh
 v1:r.vh<=4294967295
 c0:0<=r.cls
 c1:r.cls<=3
 t0:0<=r.til
 t1:r.til<=2147483648
 lg:vgF r.legs=true
structure aC (l:List Rq):Prop where
 ok:∀r∈l,RqO r
 so:l.Pairwise λa b=>a.id<b.id
 n4:l.length<=4
theorem aC.lt {l:List Rq} (h:aC l) {i:Nat} (h0:0<i) (hi:i<l.length):(l.getD (i-1) default).id<(l.getD i default).id:=by
 have:=List.pairwise_iff_getElem.1 h.so (i-1) i (by omega) hi (by omega);simpa [List.getD,hi,show i-1<l.length by omega]using this
theorem KZ {l:List Lg} (h:vgF l=true):1<=(l.length:Int)/\(l.length:Int)<=3:=by
 unfold vgF at h;rw[zXo]at h;exact yBp h.1
theorem QY (n:Int):xO prog 290 [iA n] [] (bA (decide (0<=n/\n<=4294967295))) []:=by
 cases hb:decide (0<=n/\n<=4294967295)with
 |false=>(rw[zXu]at hb;(refine eM call290 λF hF=>?_);((refine WW (I2 (λhc=>?_) (λhc=>?_))));all_goals (first|exact zK|(exfalso;omega)|(apply uN;(exact zK);simp only[qZ,zXu,zXi,zYm,zYy,zYr,zZs,yAt];omega)))
 |true=>(rw[zXi]at hb;(refine eM call290 λF hF=>?_);((refine WW ?_));all_goals (first|exact zK|(exfalso;omega)|(apply uN;(exact zK);simp only[qZ,zXu,zXi,zYm,zYy,zYr,zZs,yAt];omega)))
theorem AI (n:Int):xO prog 291 [iA n] [] (bA (decide (0<=n/\n<=3))) []:=by
 cases hb:decide (0<=n/\n<=3)with
 |false=>(rw[zXu]at hb;(refine eM call291 λF hF=>?_);((refine WW (I2 (λhc=>?_) (λhc=>?_))));all_goals (first|exact zK|(exfalso;omega)|(apply uN;(exact zK);simp only[qZ,zXu,zXi,zYm,zYy,zYr,zZs,yAt];omega)))
 |true=>(rw[zXi]at hb;(refine eM call291 λF hF=>?_);((refine WW ?_));all_goals (first|exact zK|(exfalso;omega)|(apply uN;(exact zK);simp only[qZ,zXu,zXi,zYm,zYy,zYr,zZs,yAt];omega)))
theorem zBl (n:Int):xO prog 270 [iA n] [] (bA (decide (0<=n/\n<=1073741824))) []:=by
 cases hb:decide (0<=n/\n<=1073741824)with
 |false=>(rw[zXu]at hb;(refine eM call270 λF hF=>?_);((refine WW (I2 (λhc=>?_) (λhc=>?_))));all_goals (first|exact zK|(exfalso;omega)|(apply uN;(exact zK);simp only[qZ,zXu,zXi,zYm,zYy,zYr,zZs,yAt];omega)))
 |true=>(rw[zXi]at hb;(refine eM call270 λF hF=>?_);((refine WW ?_));all_goals (first|exact zK|(exfalso;omega)|(apply uN;(exact zK);simp only[qZ,zXu,zXi,zYm,zYy,zYr,zZs,yAt];omega)))
theorem VB (l:List Rq) (q:Int) (hv:aC l) (hq:(l.length:Int)<=q):xO prog 269 [zD yK l,iA q] [] (bA true) []:=by
 have hl:=zA yK l;have h4:=hv.n4
 (refine eM call269 λF hF=>?_)
 (refine WW ?_)
 (refine zP (l.length) [] [] [0,16,17] [18,0,16,17] rfl (λi T U=>⟨(18,iA i)::T,U⟩) ?_;(conv=>whnf);refine⟨by rfl,?_,?_⟩)
 ·intro i hi;have hy:=zM yK l i hi;have hm:l.getD i default∈l:=by simp[List.getD,hi]
  obtain⟨i0,i1,v0,v1,c0,c1,t0,t1,lg⟩:=hv.ok _ hm;have k1:=QY (l.getD i default).id;have k2:=QY (l.getD i default).vh;have k3:=AI (l.getD i default).cls;have k4:=zBk (l.getD i default).legs;rw[zXg (by omega)]at k1 k2 k3;rw[lg]at k4;by_cases hi0:0<i
  ·have hyp:=yM yK l ((i:Int)-1) (by omega) (by omega);rw[show((i:Int)-1).toNat=i-1 by omega]at hyp;have hyq:(l.map yK)[((i:Int)-1).toNat]? =some (yK (l.getD (i-1) default)):=by rw[show((i:Int)-1).toNat=i-1 by omega];exact hyp
   have hlt:=hv.lt hi0 hi;clear hyp hm lg;generalize l.getD i default=t at *;generalize l.getD (i-1) default=p at*
   (have zc1:=k1;have zc2:=k2;have zc3:=k3;have zc4:=k4;refine WW ?_;clear zc1 zc2 zc3 zc4)
   rfl
  ·obtain rfl:i=0:=by omega
   clear hm lg;generalize l.getD 0 default=t at*
   (have zc1:=k1;have zc2:=k2;have zc3:=k3;have zc4:=k4;refine WW ?_;clear zc1 zc2 zc3 zc4)
   rfl
 ·(refine WW ?_)
  exact zK
end Av
end Go.Proofs.YtmamjhmoegjapaaGreat
