/- Part 5. -/
import Derived.Test.YtaglbcjljlkjcaaGreatX04
namespace Go.Proofs.YtaglbcjljlkjcaaGreat.Av
open Tryz
set_option linter.all false
set_option maxRecDepth 4000
set_option maxHeartbeats 2000000
open List renaming length->ln,range->pb,take->pi,getD->py
open Inhabited renaming default->dd
variable {r:AV}{h0 h1:List (Nat×xV)}{n:Nat}{A B C D E F G Y a b c d p q:Prop}{α:Type}
def Lp(a:A)(b:B)(c:C)(h:p=(A/\B/\C):=by conv=>lhs;whnf):p:=by(rw[h];exact⟨a,b,c⟩)
def Lq(b:B)(c:C)(h:p=(A/\B/\C):=by conv=>lhs;whnf)(a:A:=by rfl):p:=by(rw[h];exact⟨a,b,c⟩)
structure aF (q:Prop):Prop where
 h:q
structure yu (n:Nat) (K ts:List Nat):Prop where
def I2 (x:a) (y:b):a/\b:=⟨x,y⟩
def I3 (x:a) (y:b) (z:c):a/\b/\c:=⟨x,y,z⟩
def I4 (x:a) (y:b) (z:c) (u:d):a/\b/\c/\d:=⟨x,y,z,u⟩
def I5 {e:Prop} (x:a) (y:b) (z:c) (u:d) (v:e):a/\b/\c/\d/\e:=⟨x,y,z,u,v⟩
def I6 {e f:Prop} (x:a) (y:b) (z:c) (u:d) (v:e) (w:f):a/\b/\c/\d/\e/\f:=⟨x,y,z,u,v,w⟩
section
variable {P:Program} {K0:List Nat} {F:Fr K0} {m:Nat} {ops:Array Oper} {rest:List Oper} {Q:List FP->St->Prop} {dr:Bool} {fs:List FP} {ty t:Nat} {pos:String} {after:Array Edge} {st:St}
def J1 {u:List AV} (_:xP P n u h0 r h1) {z:Array Operand} {I:Array Nat} (hk:yP P F m ops dr (⟨some t,.call ⟨.value (.func n),z,I⟩,ty,pos,after,none⟩::rest) st fs Q):yP P F m ops dr (⟨some t,.call ⟨.value (.func n),z,I⟩,ty,pos,after,none⟩::rest) st fs Q:=hk
def Uc {K I:List Nat} (_:yu n K I) {u:Array Operand} {z:Array Nat} (hk:yP P F m ops dr (⟨some t,.call ⟨.value (.func n),u,z⟩,ty,pos,after,none⟩::rest) st fs Q):yP P F m ops dr (⟨some t,.call ⟨.value (.func n),u,z⟩,ty,pos,after,none⟩::rest) st fs Q:=hk
def NU {z:List (Nat×AV)} {h:List (Nat×xV)} {Q:List FP->St->Prop} {K u:List Nat} (_:yu n K u) (I:K0.all (K.contains ·)=true) (h1:jY K (zD h) z u λT=>jR K (zD h) K λU=>yP P F m ops false rest ⟨T,U⟩ fs Q):yP P F m ops false rest ⟨z,h⟩ fs Q:=vU K u I h1
end
def CC (k:q) (h:aF q->p:=by(intro gd;(((first|refine J1 zc ?_|refine nf ?_);first|refine wJ (zL (zc) Z Z Z Z Z) Z ?_|refine qA (zL (zc) Z Z Z Z Z) Z Z Z ?_|refine aO (zL (zc) Z Z Z Z Z) Z Z Z ?_|refine wJ (jL (zc) Z Z Z Z Z) Z ?_|refine qA (jL (zc) Z Z Z Z Z) Z Z Z ?_));exact gd.h)):p:=h ⟨k⟩
theorem PT (k:q) (h:aF q->p:=by(intro gd;(first|refine uN tok Z Z ?_|(refine MH ?_;first|refine zAo Z Z ?_|refine G7 Z Z Z Z ?_)|(refine wT ?_;first|refine wJ (Gh Z Z Z (by unfold yn;omega)) Z ?_|refine wJ (Fh Z Z Z (by unfold yn;omega)) Z ?_|refine wJ (su Z Z Z) Z ?_|refine wJ (OA Z Z ⟨by omega,by omega⟩) Z ?_|refine wJ (Zu Z Z ⟨by omega,by omega⟩) Z ?_|refine wJ (OB Z Z ⟨by omega,by omega⟩) Z ?_|refine wJ (Yu Z Z (by assumption) (by omega)) Z ?_|refine wJ (Xu Z Z (by omega)) Z ?_|refine wJ (Wu Z Z) Z ?_|refine wJ (Wm Z Z (by omega)) Z ?_|refine wJ (Vm Z Z (by omega)) Z ?_|refine wJ (XA (.inl ⟨rfl,rfl⟩) Z Z (by omega)) Z ?_|refine wJ (XA (.inr ⟨rfl,rfl⟩) Z Z (by omega)) Z ?_|refine wJ (IH tok Z Z Z Z (.inl ⟨rfl,rfl⟩)) Z ?_|refine wJ (IH tok Z Z Z Z (.inr ⟨rfl,rfl⟩)) Z ?_|refine wJ (yd tok (.inl ⟨rfl,rfl⟩) Z Z Z) Z ?_|refine wJ (xX tok (.inl ⟨rfl,rfl⟩) Z Z Z Z) Z ?_|refine wJ (Zm Z Z) Z ?_|refine wJ (aL Z Z) Z ?_|refine wJ (Ym Z Z) Z ?_|refine wJ (Nc Z Z (by assumption)) Z ?_|refine wJ (JO Z Z) Z ?_|refine wJ (Mc Z Z (by assumption)) Z ?_|refine wJ (JP Z Z) Z ?_)|(refine K2 ?_;first|refine wJ (RK tok Z Z Z Z Z (by omega) WA Z Z) Z ?_|refine wJ (RI tok Z Z Z Z Z Z (by omega) (by omega) Z) Z ?_|refine wJ (TG tok Z Z Z Z Z Z (by omega) (by omega)) Z ?_)|(refine ru ?_;first|refine wJ (GZ tok Z Z Z WA Z) Z ?_|refine wJ (GY tok Z Z Z WA Z) Z ?_|refine wJ (KE tok Z Z Z Z WA Z) Z ?_|refine wJ (KD tok Z Z Z Z WA Z) Z ?_)|(refine J2 ?_;first|refine wJ (TE tok Z Z Z Z Z Z Z Z) Z ?_|refine wJ (RJ tok Z WA Z Z Z Z Z Z) Z ?_)|(refine yE ?_;first|refine vC tok Z Z Z Z Z Z Z (by first|(intro y u;cases u;rfl)|exact yM _ _ (λ_=>rfl)) Z Z Z (by first|omega|(simp;done)|(simp;omega)) Z ?_|refine jH tok Z Z Z Z Z Z Z Z Z Z Z (by first|(intro y u;cases u;rfl)|exact yM _ _ (λ_=>rfl)) (by first|omega|(simp;done)|(simp;omega)) Z ?_)|(refine wn ?_;first|refine wJ (Uu Z ⟨by omega,by omega⟩) Z ?_)|(refine tu ?_;first|refine wJ (BR tok Z Z Z Z ⟨by omega,by omega⟩) Z ?_|refine wJ (AC tok Z Z Z Z) Z ?_|refine wJ (BI tok Z Z Z Z Z Z Z WA) Z ?_)|(refine gU ?_;first|refine GT tok Z Z Z Z Z (by first|(intro y u;cases u;rfl)|exact yM _ _ (λ_=>rfl)|assumption|(simp;done)) (by omega) qD (by first|exact zD2.symm|rfl) Z ?_|refine S2 tok Z Z Z Z Z (by first|(intro y u;cases u;rfl)|exact yM _ _ (λ_=>rfl)|assumption|(simp;done)) (by omega) qD (by first|exact zEk.symm|rfl) Z ?_|refine ku tok Z Z Z Z Z Z (by first|(intro y u;cases u;rfl)|exact yM _ _ (λ_=>rfl)|assumption|(simp;done)) (by omega) (by omega) (by first|omega|(simp;omega)) (by first|assumption|rfl) Z ?_));exact gd.h)):p:=h ⟨k⟩
def SB (k:q) (h:aF q->p:=by(intro gd;refine zG ?_;(first|(refine am ?_;refine wJ (bV Z Z Z) Z ?_)|refine YZ tok Z Z Z Z ?_|(refine cE ?_;first|refine W3 tok Z Z Z Z Z Z ?_|refine cV tok Z Z Z ?_|refine pm tok Z Z Z WA Z Z Z Z Z Z ?_|refine Qc tok Z Z Z WA Z Z Z Z Z Z Z Z ?_)|refine kR ?_|refine VH gY ?_);exact gd.h)):p:=h ⟨k⟩
def SC (k:q) (h:aF q->p:=by(intro gd;((first|(refine Uc kh ?_;refine NU kh Z ?_;(conv=>whnf);(try simp only[zBr,zA8]))|(refine Uc zf2 ?_;refine NU zf2 Z ?_;(conv=>whnf);(try simp only[zBr,zA8]))|(refine Uc zf3 ?_;refine NU zf3 Z ?_;(conv=>whnf);(try simp only[zBr,zA8]))|skip);first|(have zc:=ga;refine CC ?_;clear zc)|(have zc:=ge;refine CC ?_;clear zc)|(have zc:=gn;refine CC ?_;clear zc)|(have zc:=gt;refine CC ?_;clear zc)|(have zc:=gv;refine CC ?_;clear zc)|(have zc:=kj;refine CC ?_;clear zc)|(have zc:=lc;refine CC ?_;clear zc)|(have zc:=lf;refine CC ?_;clear zc)|(have zc:=lk;refine CC ?_;clear zc)|(have zc:=zc10;refine CC ?_;clear zc)|(have zc:=zc11;refine CC ?_;clear zc)|(have zc:=zc12;refine CC ?_;clear zc)|(have zc:=zc13;refine CC ?_;clear zc)|(have zc:=zc14;refine CC ?_;clear zc)|(have zc:=zc15;refine CC ?_;clear zc)|(have zc:=zc16;refine CC ?_;clear zc)|fail);exact gd.h)):p:=h ⟨k⟩
def WZ (k:q) (h:aF q->p:=by(intro gd;(repeat1' (first|(refine zG ?_;first|refine PT ?_|(refine xQ ?_;refine SC ?_)|refine SB ?_)|refine xY ?_|refine xR ?_|refine xJ ?_|refine xO ?_));exact gd.h)):p:=h ⟨k⟩
def WS (k:q) (h:aF q->p:=by(intro gd;(repeat1' (first|(refine zG ?_;first|refine PT ?_|(refine xQ ?_;refine SC ?_)|refine SB ?_)));exact gd.h)):p:=h ⟨k⟩
def WV (k:q) (h:aF q->p:=by(intro gd;(repeat1' (first|(refine zG ?_;first|refine PT ?_|(refine xQ ?_;refine SC ?_)|((fail_if_success refine yI ?_);refine SB ?_))));exact gd.h)):p:=h ⟨k⟩
def WY (k:q) (h:aF q->p:=by(intro gd;(repeat1' (first|(refine zG ?_;first|refine PT ?_|(refine xQ ?_;refine SC ?_)|((fail_if_success refine yI ?_);refine SB ?_))|refine xY ?_|refine xR ?_|refine xJ ?_|refine xO ?_));exact gd.h)):p:=h ⟨k⟩
def WT (k:q) (h:aF q->p:=by(intro gd;(repeat1' (first|(refine zG ?_;first|refine PT ?_|(refine xQ ?_;refine SC ?_)|((fail_if_success refine cE ?_);refine SB ?_))|refine xY ?_|refine xR ?_|refine xJ ?_|refine xO ?_));exact gd.h)):p:=h ⟨k⟩
def SG (k:q) (h:aF q->p:=by(intro gd;refine zG ?_;refine MH ?_;((refine TA Z Z (λlb=>?_) λlb=>?_)<;>(try simp only[uS,zBc,zBi,zCp,zDa,zEa,zEs,zB3,zCj,zFx,zFw,zEx]at lb));(all_goals (repeat revert lb));first|done|(exact gd.h;done)|(exact gd.h.1;exact gd.h.2;done)|(exact gd.h.1;exact gd.h.2.1;exact gd.h.2.2;done)|(exact gd.h.1;exact gd.h.2.1;exact gd.h.2.2.1;exact gd.h.2.2.2;done)|(exact gd.h.1;exact gd.h.2.1;exact gd.h.2.2.1;exact gd.h.2.2.2.1;exact gd.h.2.2.2.2;done)|(exact gd.h.1;exact gd.h.2.1;exact gd.h.2.2.1;exact gd.h.2.2.2.1;exact gd.h.2.2.2.2.1;exact gd.h.2.2.2.2.2;done))):p:=h ⟨k⟩
def SK (k:q) (h:aF q->p:=by(intro gd;((refine wA Z (λlb=>?_) λlb=>?_)<;>(try simp only[uS,zBc,zBi,zCp,zDa,zEa,zEs,zB3,zCj,zFx,zFw,zEx]at lb));(all_goals (repeat revert lb));first|done|(exact gd.h;done)|(exact gd.h.1;exact gd.h.2;done)|(exact gd.h.1;exact gd.h.2.1;exact gd.h.2.2;done)|(exact gd.h.1;exact gd.h.2.1;exact gd.h.2.2.1;exact gd.h.2.2.2;done)|(exact gd.h.1;exact gd.h.2.1;exact gd.h.2.2.1;exact gd.h.2.2.2.1;exact gd.h.2.2.2.2;done)|(exact gd.h.1;exact gd.h.2.1;exact gd.h.2.2.1;exact gd.h.2.2.2.1;exact gd.h.2.2.2.2.1;exact gd.h.2.2.2.2.2;done))):p:=h ⟨k⟩
def SM (k:q) (h:aF q->p:=by(intro gd;((refine fN ?_;refine Tf tok Z Z Z Z Z Z Z Z Z Z Z Z Z (by omega) (by omega) Z Z Z ?_));exact gd.h)):p:=h ⟨k⟩
def SL (k:q) (h:aF q->p:=by(intro gd;(first|(refine yI ?_;refine vD tok Z Z ?_)|(refine yE ?_;refine kX tok Z Z Z Z Z Z (by first|(intro y u;cases u;rfl)|exact yM _ _ (λ_=>rfl)) Z Z Z (by first|omega|(simp;done)|(simp;omega)) Z ?_));exact gd.h)):p:=h ⟨k⟩
def SE (k:q) (h:aF q->p:=by(intro gd;((refine wT ?_;first|refine wJ (YW (ms:=[_,_]) (ns:=[_,_]) tok Z Z Z Z Z Z Z gY gY gY (.inl ⟨rfl,rfl⟩)) Z ?_|refine wJ (YW (ms:=[_,_]) (ns:=[_,_]) tok Z Z Z Z Z Z Z gY gY gY (.inr ⟨rfl,rfl⟩)) Z ?_|refine wJ (YW (ms:=[_,_,_]) (ns:=[_,_,_]) tok Z Z Z Z Z Z Z gY gY gY (.inl ⟨rfl,rfl⟩)) Z ?_|refine wJ (YW (ms:=[_,_,_]) (ns:=[_,_,_]) tok Z Z Z Z Z Z Z gY gY gY (.inr ⟨rfl,rfl⟩)) Z ?_));exact gd.h)):p:=h ⟨k⟩
def SF (k:q) (h:aF q->p:=by(intro gd;((refine wT ?_;first|refine wJ (YW (ms:=[_,_,_,_,_]) (ns:=[_,_,_,_,_]) tok Z Z Z Z Z Z Z gY gY gY (.inl ⟨rfl,rfl⟩)) Z ?_|refine wJ (YW (ms:=[_,_,_,_,_]) (ns:=[_,_,_,_,_]) tok Z Z Z Z Z Z Z gY gY gY (.inr ⟨rfl,rfl⟩)) Z ?_));exact gd.h)):p:=h ⟨k⟩
def SR (k:q) (h:aF q->p:=by(intro gd;(first|refine xY ?_|refine xR ?_|refine uD Z ?_|refine yR Z ?_|refine yC Z ?_|refine xJ ?_|refine xL ?_|refine xO ?_|refine xC ?_);exact gd.h)):p:=h ⟨k⟩
def SX (k:q) (h:aF q->p:=by(intro gd;(first|refine xY ?_|refine xR ?_|refine yR Z ?_|refine yC Z ?_|refine xJ ?_|refine xL ?_|refine xO ?_);exact gd.h)):p:=h ⟨k⟩
def SN (k:q) (h:aF q->p:=by(intro gd;(first|refine xY ?_|refine xR ?_|refine uD Z ?_|refine yR Z ?_|refine yC Z ?_|refine xJ ?_|refine xO ?_|refine xC ?_);exact gd.h)):p:=h ⟨k⟩
def SQ (k:q) (h:aF q->p:=by(intro gd;(first|refine xY ?_|refine xR ?_|refine uD Z ?_|refine xJ ?_|refine xL ?_|refine xO ?_);exact gd.h)):p:=h ⟨k⟩
def SV (k:q) (h:aF q->p:=by(intro gd;(first|refine xY ?_|refine xR ?_|refine uD Z ?_|refine yR Z ?_|refine yC Z ?_|refine xJ ?_|refine xL ?_|refine xO ?_);exact gd.h)):p:=h ⟨k⟩
structure One (a:Prop):Prop where
 x:a
structure J7 (a b:Prop):Prop where
 x:a
 y:b
def xH (x:a):One a:=⟨x⟩
def yW (x:a) (y:b):J7 a b:=⟨x,y⟩
def YG (k:J7 a b) (h:a->b->p:=by(intro lp zy8;refine zG ?_;refine MH ?_;((refine TA Z Z (λlb=>?_) λlb=>?_)<;>(try simp only[uS,zBc,zBi,zCp,zDa,zEa,zEs,zB3,zCj,zFx,zFw,zEx]at lb));(all_goals (repeat revert lb));exact lp;exact zy8)):p:=h k.x k.y
def xy (k:One a) (h:a->p:=by(intro lp;refine zG ?_;refine MH ?_;((refine TA Z Z (λlb=>?_) λlb=>?_)<;>(try simp only[uS,zBc,zBi,zCp,zDa,zEa,zEs,zB3,zCj,zFx,zFw,zEx]at lb));(all_goals (repeat revert lb));exact lp)):p:=h k.x
def YK (k:J7 a b) (h:a->b->p:=by(intro lp zy8;((refine wA Z (λlb=>?_) λlb=>?_)<;>(try simp only[uS,zBc,zBi,zCp,zDa,zEa,zEs,zB3,zCj,zFx,zFw,zEx]at lb));(all_goals (repeat revert lb));exact lp;exact zy8)):p:=h k.x k.y
def I7 (k:One a) (h:a->p:=by(intro lp;((refine wA Z (λlb=>?_) λlb=>?_)<;>(try simp only[uS,zBc,zBi,zCp,zDa,zEa,zEs,zB3,zCj,zFx,zFw,zEx]at lb));(all_goals (repeat revert lb));exact lp)):p:=h k.x
def YG0 (k:J7 a b) (h:a->b->p:=by(intro lp zy8;refine zG ?_;refine MH ?_;refine TA Z Z (λlb=>?_) λlb=>?_;(all_goals (repeat revert lb));exact lp;exact zy8)):p:=h k.x k.y
def YK0 (k:J7 a b) (h:a->b->p:=by(intro lp zy8;refine wA Z (λlb=>?_) λlb=>?_;(all_goals (repeat revert lb));exact lp;exact zy8)):p:=h k.x k.y
def uT (k:q) (h:aF q->p:=by(intro gd;(first|refine WZ ?_|refine YG ?_|refine xy ?_|refine SR ?_|refine YK ?_|refine I7 ?_);exact gd.h)):p:=h ⟨k⟩
def I1 (k:q) (h:aF q->p:=by(intro gd;(first|refine WZ ?_|refine YG ?_|refine xy ?_|refine SX ?_);exact gd.h)):p:=h ⟨k⟩
def yf (k:q) (h:aF q->p:=by(intro gd;(first|refine WZ ?_|refine YG ?_|refine xy ?_|refine SN ?_|refine YK ?_|refine I7 ?_);exact gd.h)):p:=h ⟨k⟩
def Tc (k:q) (h:aF q->p:=by(intro gd;(first|refine WZ ?_|refine YG ?_|refine xy ?_|refine SQ ?_);exact gd.h)):p:=h ⟨k⟩
def J9 (k:q) (h:aF q->p:=by(intro gd;(first|refine WZ ?_|refine YG ?_|refine xy ?_|refine SV ?_|refine YK ?_|refine I7 ?_);exact gd.h)):p:=h ⟨k⟩
def jX (k:q) (h:aF q->p:=by(intro gd;(first|refine WY ?_|refine YG ?_|refine xy ?_|refine SR ?_|refine YK ?_|refine I7 ?_);exact gd.h)):p:=h ⟨k⟩
def WYX (k:q) (h:aF q->p:=by(intro gd;(first|refine WY ?_|refine YG ?_|refine xy ?_|refine SX ?_);exact gd.h)):p:=h ⟨k⟩
def WTR (k:q) (h:aF q->p:=by(intro gd;(first|refine WT ?_|refine YG ?_|refine xy ?_|refine SR ?_|refine YK ?_|refine I7 ?_);exact gd.h)):p:=h ⟨k⟩
def aK (k:q) (h:aF q->p:=by(intro gd;(first|refine WZ ?_|refine YG0 ?_|refine SR ?_|refine YK0 ?_);exact gd.h)):p:=h ⟨k⟩
def WW (k:q) (h:aF q->p:=by(intro gd;(repeat' (first|refine WZ ?_|refine SG (I2 (λic=>?_) λic=>?_)|refine SG λic=>?_|(refine zG ?_;refine SM ?_)|refine SR ?_|refine SK (I2 (λic=>?_) λic=>?_)|refine SK λic=>?_|fail));(all_goals (repeat revert ic));first|done|(exact gd.h;done)|(exact gd.h.1;exact gd.h.2;done)|(exact gd.h.1;exact gd.h.2.1;exact gd.h.2.2;done)|(exact gd.h.1;exact gd.h.2.1;exact gd.h.2.2.1;exact gd.h.2.2.2;done)|(exact gd.h.1;exact gd.h.2.1;exact gd.h.2.2.1;exact gd.h.2.2.2.1;exact gd.h.2.2.2.2;done)|(exact gd.h.1;exact gd.h.2.1;exact gd.h.2.2.1;exact gd.h.2.2.2.1;exact gd.h.2.2.2.2.1;exact gd.h.2.2.2.2.2;done))):p:=h ⟨k⟩
def WL (k:q) (h:aF q->p:=by(intro gd;(repeat' (first|refine WY ?_|refine SG (I2 (λic=>?_) λic=>?_)|refine SG λic=>?_|(refine zG ?_;first|refine SL ?_|refine SM ?_)|refine SB ?_|refine SR ?_|refine SK (I2 (λic=>?_) λic=>?_)|refine SK λic=>?_|fail));(all_goals (repeat revert ic));first|done|(exact gd.h;done)|(exact gd.h.1;exact gd.h.2;done)|(exact gd.h.1;exact gd.h.2.1;exact gd.h.2.2;done)|(exact gd.h.1;exact gd.h.2.1;exact gd.h.2.2.1;exact gd.h.2.2.2;done)|(exact gd.h.1;exact gd.h.2.1;exact gd.h.2.2.1;exact gd.h.2.2.2.1;exact gd.h.2.2.2.2;done)|(exact gd.h.1;exact gd.h.2.1;exact gd.h.2.2.1;exact gd.h.2.2.2.1;exact gd.h.2.2.2.2.1;exact gd.h.2.2.2.2.2;done))):p:=h ⟨k⟩
def WD (k:q) (h:aF q->p:=by(intro gd;(repeat' (first|refine WZ ?_|refine SG (I2 (λic=>?_) λic=>?_)|refine SG λic=>?_|(refine zG ?_;refine SM ?_)|refine SX ?_|fail));(all_goals (repeat revert ic));first|done|(exact gd.h;done)|(exact gd.h.1;exact gd.h.2;done)|(exact gd.h.1;exact gd.h.2.1;exact gd.h.2.2;done)|(exact gd.h.1;exact gd.h.2.1;exact gd.h.2.2.1;exact gd.h.2.2.2;done)|(exact gd.h.1;exact gd.h.2.1;exact gd.h.2.2.1;exact gd.h.2.2.2.1;exact gd.h.2.2.2.2;done)|(exact gd.h.1;exact gd.h.2.1;exact gd.h.2.2.1;exact gd.h.2.2.2.1;exact gd.h.2.2.2.2.1;exact gd.h.2.2.2.2.2;done))):p:=h ⟨k⟩
def eN {f:Nat} {fn:Func} {body:Code} {args:List AV} (O:prog.funcs[f]? =some fn) (u:bS prog f) (h:∀F:Fr (xB h0),F.ro=none/\F.it=false->uG prog F fn.ntmps body ⟨UT 0 args,h0⟩ (Fin TT fn.results.toList h0 r h1)) (hb:fn.body=some body:=by exact Z) (z:Nat.ble (ln args) fn.ntmps=true:=by exact Z) (M:uB h0=true:=by exact Z) (I:uB h1=true:=by exact Z) (L:Nat.ble fn.ntmps GS=true:=by rfl):xP prog f args h0 r h1:=VF tok O hb u z M I h L
def zH {TT:List TI} {u:List ResultVar} {st:St} {vs:List AV} (h:KB TT st u=some vs:=by exact Z) (z:(xB h0).all (([]:List Nat).contains ·)=true:=by exact Z) (I:ZG (wY [] (zD st.h) (BO vs))=r:=by exact Z) (hh:wZ [] (zD st.h)=h1:=by exact Z):Fin TT u h0 r h1 .ret st:=zI [] h z I hh
def nl{p:Prop}(h:p:=by(refine WL ?_;exact zH)):p:=h
def ly{p:Prop}(h:p:=by(refine WW ?_;exact zH)):p:=h
structure zT2 (A B:Prop):Prop where
  mk::(a1:A) (b1:B)
def xW (u:A) (z:B):zT2 A B:=⟨u,z⟩
def ze2 (z:zT2 A B) (h:A->B->p):p:=h z.a1 z.b1
structure zT3 (A B C:Prop):Prop where
  mk::(a1:A) (b1:B) (c1:C)
def qM (u:A) (z:B) (I:C):zT3 A B C:=⟨u,z,I⟩
def ze3 (z:zT3 A B C) (h:A->B->C->p):p:=h z.a1 z.b1 z.c1
structure zT4 (A B C D:Prop):Prop where
  mk::(a1:A) (b1:B) (c1:C) (d1:D)
def cM (u:A) (z:B) (I:C) (L:D):zT4 A B C D:=⟨u,z,I,L⟩
def ze4 (z:zT4 A B C D) (h:A->B->C->D->p):p:=h z.a1 z.b1 z.c1 z.d1
structure zT5 (A B C D E:Prop):Prop where
  mk::(a1:A) (b1:B) (c1:C) (d1:D) (e1:E)
def NV (u:A) (z:B) (I:C) (L:D) (e1:E):zT5 A B C D E:=⟨u,z,I,L,e1⟩
def ze5 (z:zT5 A B C D E) (h:A->B->C->D->E->p):p:=h z.a1 z.b1 z.c1 z.d1 z.e1
structure zT6 (A B C D E F:Prop):Prop where
  mk::(a1:A) (b1:B) (c1:C) (d1:D) (e1:E) (f1:F)
def Zb (u:A) (z:B) (I:C) (L:D) (e1:E) (M:F):zT6 A B C D E F:=⟨u,z,I,L,e1,M⟩
def ze6 (z:zT6 A B C D E F) (h:A->B->C->D->E->F->p):p:=h z.a1 z.b1 z.c1 z.d1 z.e1 z.f1
structure zT7 (A B C D E F G:Prop):Prop where
  mk::(a1:A) (b1:B) (c1:C) (d1:D) (e1:E) (f1:F) (g1:G)
def wy (u:A) (z:B) (I:C) (L:D) (e1:E) (M:F) (O:G):zT7 A B C D E F G:=⟨u,z,I,L,e1,M,O⟩
def ze7 (z:zT7 A B C D E F G) (h:A->B->C->D->E->F->G->p):p:=h z.a1 z.b1 z.c1 z.d1 z.e1 z.f1 z.g1
structure zT8 (A B C D E F G H:Prop):Prop where
  mk::(a1:A) (b1:B) (c1:C) (d1:D) (e1:E) (f1:F) (g1:G) (h1:H)
def vy {H:Prop} (u:A) (z:B) (I:C) (L:D) (e1:E) (M:F) (O:G) (h1:H):zT8 A B C D E F G H:=⟨u,z,I,L,e1,M,O,h1⟩
def ze8 {H:Prop} (z:zT8 A B C D E F G H) (h:A->B->C->D->E->F->G->H->p):p:=h z.a1 z.b1 z.c1 z.d1 z.e1 z.f1 z.g1 z.h1
def yJ (la:Y) (k:q) (h:Y->aF q->p:=by(intro la gd;(first|refine ze2 la (λga ge=>?_)|refine ze3 la (λga ge gn=>?_)|refine ze4 la (λga ge gn gt=>?_)|refine ze5 la (λga ge gn gt gv=>?_)|refine ze6 la (λga ge gn gt gv kj=>?_)|refine ze7 la (λga ge gn gt gv kj lc=>?_)|refine ze8 la (λga ge gn gt gv kj lc lf=>?_));(repeat' (first|refine WZ ?_|refine SG (I2 (λic=>?_) λic=>?_)|refine SG λic=>?_|(refine zG ?_;refine SM ?_)|refine SR ?_|refine SK (I2 (λic=>?_) λic=>?_)|refine SK λic=>?_|fail));(all_goals (repeat revert ic));first|done|(exact gd.h;done)|(exact gd.h.1;exact gd.h.2;done)|(exact gd.h.1;exact gd.h.2.1;exact gd.h.2.2;done)|(exact gd.h.1;exact gd.h.2.1;exact gd.h.2.2.1;exact gd.h.2.2.2;done)|(exact gd.h.1;exact gd.h.2.1;exact gd.h.2.2.1;exact gd.h.2.2.2.1;exact gd.h.2.2.2.2;done)|(exact gd.h.1;exact gd.h.2.1;exact gd.h.2.2.1;exact gd.h.2.2.2.1;exact gd.h.2.2.2.2.1;exact gd.h.2.2.2.2.2;done))):p:=h la ⟨k⟩
def mx{Y p:Prop}(k:Y)(h:Y->p:=by(intro k;refine yJ k ?_;exact zH)):p:=h k
def zS (la:Y) (k:q) (h:Y->aF q->p:=by(intro ga gd;(repeat' (first|refine WZ ?_|refine SG (I2 (λic=>?_) λic=>?_)|refine SG λic=>?_|(refine zG ?_;refine SM ?_)|refine SR ?_|refine SK (I2 (λic=>?_) λic=>?_)|refine SK λic=>?_|fail));(all_goals (repeat revert ic));first|done|(exact gd.h;done)|(exact gd.h.1;exact gd.h.2;done)|(exact gd.h.1;exact gd.h.2.1;exact gd.h.2.2;done)|(exact gd.h.1;exact gd.h.2.1;exact gd.h.2.2.1;exact gd.h.2.2.2;done)|(exact gd.h.1;exact gd.h.2.1;exact gd.h.2.2.1;exact gd.h.2.2.2.1;exact gd.h.2.2.2.2;done)|(exact gd.h.1;exact gd.h.2.1;exact gd.h.2.2.1;exact gd.h.2.2.2.1;exact gd.h.2.2.2.2.1;exact gd.h.2.2.2.2.2;done))):p:=h la ⟨k⟩
def ng{Y p:Prop}(k:Y)(h:Y->p:=by(intro k;refine zS k ?_;exact zH)):p:=h k
def QE (la:Y) (k:q) (h:Y->aF q->p:=by(intro la gd;(first|refine ze2 la (λga ge=>?_)|refine ze3 la (λga ge gn=>?_)|refine ze4 la (λga ge gn gt=>?_)|refine ze5 la (λga ge gn gt gv=>?_)|refine ze6 la (λga ge gn gt gv kj=>?_)|refine ze7 la (λga ge gn gt gv kj lc=>?_)|refine ze8 la (λga ge gn gt gv kj lc lf=>?_));(repeat' (first|refine WY ?_|refine SG (I2 (λic=>?_) λic=>?_)|refine SG λic=>?_|(refine zG ?_;first|refine SL ?_|refine SM ?_)|refine SB ?_|refine SR ?_|refine SK (I2 (λic=>?_) λic=>?_)|refine SK λic=>?_|fail));(all_goals (repeat revert ic));first|done|(exact gd.h;done)|(exact gd.h.1;exact gd.h.2;done)|(exact gd.h.1;exact gd.h.2.1;exact gd.h.2.2;done)|(exact gd.h.1;exact gd.h.2.1;exact gd.h.2.2.1;exact gd.h.2.2.2;done)|(exact gd.h.1;exact gd.h.2.1;exact gd.h.2.2.1;exact gd.h.2.2.2.1;exact gd.h.2.2.2.2;done)|(exact gd.h.1;exact gd.h.2.1;exact gd.h.2.2.1;exact gd.h.2.2.2.1;exact gd.h.2.2.2.2.1;exact gd.h.2.2.2.2.2;done))):p:=h la ⟨k⟩
def nm{Y p:Prop}(k:Y)(h:Y->p:=by(intro k;refine QE k ?_;exact zH)):p:=h k
def VZ (la:Y) (k:q) (h:Y->aF q->p:=by(intro ga gd;(repeat' (first|refine WY ?_|refine SG (I2 (λic=>?_) λic=>?_)|refine SG λic=>?_|(refine zG ?_;first|refine SL ?_|refine SM ?_)|refine SB ?_|refine SR ?_|refine SK (I2 (λic=>?_) λic=>?_)|refine SK λic=>?_|fail));(all_goals (repeat revert ic));first|done|(exact gd.h;done)|(exact gd.h.1;exact gd.h.2;done)|(exact gd.h.1;exact gd.h.2.1;exact gd.h.2.2;done)|(exact gd.h.1;exact gd.h.2.1;exact gd.h.2.2.1;exact gd.h.2.2.2;done)|(exact gd.h.1;exact gd.h.2.1;exact gd.h.2.2.1;exact gd.h.2.2.2.1;exact gd.h.2.2.2.2;done)|(exact gd.h.1;exact gd.h.2.1;exact gd.h.2.2.1;exact gd.h.2.2.2.1;exact gd.h.2.2.2.2.1;exact gd.h.2.2.2.2.2;done))):p:=h la ⟨k⟩
def oj{Y p:Prop}(k:Y)(h:Y->p:=by(intro k;refine VZ k ?_;exact zH)):p:=h k
def Z2 (la:Y) (k:q) (h:Y->aF q->p:=by(intro la gd;(first|refine ze2 la (λga ge=>?_)|refine ze3 la (λga ge gn=>?_)|refine ze4 la (λga ge gn gt=>?_)|refine ze5 la (λga ge gn gt gv=>?_)|refine ze6 la (λga ge gn gt gv kj=>?_)|refine ze7 la (λga ge gn gt gv kj lc=>?_)|refine ze8 la (λga ge gn gt gv kj lc lf=>?_));(repeat' (first|refine WZ ?_|refine SG (I2 (λic=>?_) λic=>?_)|refine SG λic=>?_|(refine zG ?_;refine SM ?_)|refine SX ?_|fail));(all_goals (repeat revert ic));first|done|(exact gd.h;done)|(exact gd.h.1;exact gd.h.2;done)|(exact gd.h.1;exact gd.h.2.1;exact gd.h.2.2;done)|(exact gd.h.1;exact gd.h.2.1;exact gd.h.2.2.1;exact gd.h.2.2.2;done)|(exact gd.h.1;exact gd.h.2.1;exact gd.h.2.2.1;exact gd.h.2.2.2.1;exact gd.h.2.2.2.2;done)|(exact gd.h.1;exact gd.h.2.1;exact gd.h.2.2.1;exact gd.h.2.2.2.1;exact gd.h.2.2.2.2.1;exact gd.h.2.2.2.2.2;done))):p:=h la ⟨k⟩
def WDo (la:Y) (k:q) (h:Y->aF q->p:=by(intro ga gd;(repeat' (first|refine WZ ?_|refine SG (I2 (λic=>?_) λic=>?_)|refine SG λic=>?_|(refine zG ?_;refine SM ?_)|refine SX ?_|fail));(all_goals (repeat revert ic));first|done|(exact gd.h;done)|(exact gd.h.1;exact gd.h.2;done)|(exact gd.h.1;exact gd.h.2.1;exact gd.h.2.2;done)|(exact gd.h.1;exact gd.h.2.1;exact gd.h.2.2.1;exact gd.h.2.2.2;done)|(exact gd.h.1;exact gd.h.2.1;exact gd.h.2.2.1;exact gd.h.2.2.2.1;exact gd.h.2.2.2.2;done)|(exact gd.h.1;exact gd.h.2.1;exact gd.h.2.2.1;exact gd.h.2.2.2.1;exact gd.h.2.2.2.2.1;exact gd.h.2.2.2.2.2;done))):p:=h la ⟨k⟩
def eM {f:Nat} {fn:Func} {body:Code} {args:List AV} (u:bS prog f) (h:∀F:Fr (xB h0),F.ro=none/\F.it=false->uG prog F fn.ntmps body ⟨UT 0 args,h0⟩ (Fin TT fn.results.toList h0 r h1)) (O:prog.funcs[f]? =some fn:=by exact Z) (hb:fn.body=some body:=by exact Z) (z:Nat.ble (ln args) fn.ntmps=true:=by exact Z) (M:uB h0=true:=by exact Z) (I:uB h1=true:=by exact Z) (L:Nat.ble fn.ntmps GS=true:=by rfl):xP prog f args h0 r h1:=eN O u h hb z M I L
abbrev zO:=xP prog
def PY (h:p:=by(apply vI;(exact zH);simp only[uS,zBi,zBc,zB3,zCj,zCp,zDa,zEa];omega)):p:=h
def NW (h:p:=by(exfalso;omega)):p:=h
def zB (h:p:=by omega):p:=h
def iA (n:Int):AV:= .s (.int .i64 n)
def yA (n:Int):AV:= .s (.int .u8 n)
def bA (b:Bool):AV:= .s (.bool b)
def zE (f:α->AV) (l:List α):AV:= .sl false (l.map f)
structure Cl where
 ag:Int
 id:Int
 ph:Int
 k:Int
 si:Int
structure Sv where
 ph:Int
 gr:Int
 en:List Int
structure Ph where
 ring:Int
 group:Int
 ming:Int
 maxg:Int
 yel:Int
 red:Int
 walk:Int
 clear:Int
structure Jn where
 ph:List Ph
 cf:List Int
 st:Int
structure Ag where
 sec:List Int
 rights:Int
 cls:Int
 lim:List Int
 req:Int
 ses:Int
 rate:Int
 burst:Int
structure Cf where
 js:List Jn
 ags:List Ag
 per:Int
 cap:Int
 hold:Int
 lock:Int
structure Tk where
 used:Bool
 sec:List Int
 par:Int
 rights:Int
 cls:Int
 til:Int
structure Vh where
 id:Int
 cls:Int
structure Bk where
 level:Int
 rate:Int
 burst:Int
structure Rg where
 num:Int
 ag:Ag
 tk:List Tk
 vh:List Vh
 bk:Bk
structure Ms where
 kind:Int
 tok:List Int
 args:List Int
 data:List Int
def qZ (c:Cl):AV:= .agg [iA c.ag,iA c.id,iA c.ph,iA c.k,iA c.si]
def wW (s:Sv):AV:= .agg [iA s.ph,iA s.gr,zE iA s.en]
def xN (p:Ph):AV:= .agg [iA p.ring,iA p.group,iA p.ming,iA p.maxg,iA p.yel,iA p.red,iA p.walk,iA p.clear]
def wK (j:Jn):AV:= .agg [zE xN j.ph,zE iA j.cf,iA j.st]
def vP (a:Ag):AV:= .agg [zE yA a.sec,iA a.rights,iA a.cls,zE iA a.lim,iA a.req,iA a.ses,iA a.rate,iA a.burst]
def wD (c:Cf):AV:= .agg [zE wK c.js,zE vP c.ags,iA c.per,iA c.cap,iA c.hold,iA c.lock]
def yN (t:Tk):AV:= .agg [bA t.used,zE yA t.sec,iA t.par,iA t.rights,iA t.cls,iA t.til]
def wX (v:Vh):AV:= .agg [iA v.id,iA v.cls]
def ij (b:Bk):AV:= .agg [iA b.level,iA b.rate,iA b.burst]
def uR (r:Rg):AV:= .agg [iA r.num,zE yA r.ag.sec,iA r.ag.rights,iA r.ag.cls,zE iA r.ag.lim,iA r.ag.req,iA r.ag.ses,iA r.ag.rate,iA r.ag.burst,zE yN r.tk,zE wX r.vh,iA r.bk.level,iA r.bk.rate,iA r.bk.burst]
def zX (m:Ms):AV:= .agg [iA m.kind,zE yA m.tok,zE iA m.args,zE yA m.data]
instance:Inhabited Tk:=⟨⟨false,[],-1,0,0,0⟩⟩
instance:Inhabited Vh:=⟨⟨0,0⟩⟩
instance:Inhabited Cl:=⟨⟨0,0,0,0,0⟩⟩
instance:Inhabited Ph:=⟨⟨0,0,0,0,0,0,0,0⟩⟩
instance:Inhabited Jn:=⟨⟨[],[],0⟩⟩
instance:Inhabited Ag:=⟨⟨[],0,0,[],0,0,0,0⟩⟩
def vI {TT:List TI} {z:List ResultVar} {e:Exit} {st:St} {b u:Bool} (h:Fin TT z h0 (bA u) h1 e st) (hb:u=b):Fin TT z h0 (bA b) h1 e st:=hb▸h
def zJ [Inhabited α] (f:α->AV) (l:List α) (i:Nat) (h:i<ln l):(l.map f)[i]? =some (f (l.getD i dd)):=by simp[List.getD,h]
def yF [Inhabited α] (f:α->AV) (l:List α) (i:Int) (h0:0<=i) (h:i<ln l):(l.map f)[i.toNat]? =some (f (l.getD i.toNat dd)):=zJ f l _ (by omega)
theorem wu (v n:Int) (h1:1<=n): -n<v.tmod n/\v.tmod n<n/\v % n=if v.tmod n<0 then v.tmod n+n else v.tmod n:=by
 have u:=zEe v (show n≠0 by omega);have e1:=zDy v (show 0<n by omega)
 grind [Int.tmod_eq_emod,Int.dvd_of_emod_eq_zero]
def BE (v n:Int) (h1:1<=n) (h2:n<=1099511627776):xP prog 11 [iA v,iA n] [] (iA (v % n)) []:=by
 obtain⟨u,z,e⟩:=wu v n h1;by_cases h:v.tmod n<0
 .rw[e,zA5 h]
  (refine eM call11 λF hF=>?_)
  (repeat' (first|refine aK ?_|refine yW (λhc=>?_) λhc=>?_|fail))
  exact zH
 .rw[e,Os h]
  (refine eM call11 λF hF=>?_)
  (repeat' (first|refine aK ?_|refine yW (λhc=>?_) λhc=>?_|fail))
  exact zH
structure Dk where
 l:List Int
 a:Nat
 h:a<=l.length
 hl:l.length<=9223372036854775807
def fI (d:Dk):xV:= .box [zE iA d.l,iA d.a]
def nx (d:Dk) (n:Int):Int:=if d.a<ln d.l then d.l.getD d.a 0 % n else 0
def ad (d:Dk):Dk:=if h:d.a<ln d.l then⟨d.l,d.a+1,h,d.hl⟩else d
theorem yQ (d:Dk) (n:Int) (h1:1<=n):0<=nx d n/\nx d n<n:=by
 unfold nx;split
 .exact⟨zEe _ (by omega),zDy _ (by omega)⟩
 .omega
def uy (l:List Int) (hl:ln l<=9223372036854775807):xP prog 8 [zE iA l] [] (.ptr 1000 0 0) [(1000,fI ⟨l,0,zBn _,hl⟩)]:=by
 (refine eM call8 λF hF=>?_)
 repeat' (first|refine uN tok Z Z ?_|(first|apply xY|apply xR|refine uD Z ?_|refine yR Z ?_|refine yC Z ?_|refine wA Z (λhc=>?_) λhc=>?_|apply xJ|apply xL|apply xO|apply xC)|apply kR|refine qA (dN (v:= .agg _) 1000 Z Z) Z Z Z ?_)
 exact zP [1000] Z Z Z Z
def yS (d:Dk) (n:Int) (h1:1<=n) (h2:n<=1099511627776):xP prog 16 [.ptr 1000 0 0,iA n] [(1000,fI d)] (iA (nx d n)) [(1000,fI (ad d))]:=by
 have hl:(d.l.map iA).length=ln d.l:=by simp
 have hb:=d.hl;by_cases h:d.a<ln d.l
 .have u:=yF iA d.l ((d.a:Int)+1-1) (by omega) (by omega);rw[show nx d n=d.l.getD ((d.a:Int)+1-1).toNat 0 % n by unfold nx;rw[zA5 h,show((d.a:Int)+1-1).toNat=d.a by omega]];rw[show ad d=⟨d.l,d.a+1,h,d.hl⟩ by unfold ad;rw[zGk h]]
  (refine eM call16 λF hF=>?_)
  (repeat' (first|refine aK ?_|refine yW (λhc=>?_) λhc=>?_|(apply zG;apply xQ;refine wJ (zL (BE _ _ h1 h2) Z Z Z Z Z) Z ?_)|fail))
  exact zP [1000] Z Z Z Z
 .rw[show nx d n=0 by unfold nx;rw[Os h],show ad d=d by unfold ad;rw[dif_neg h]]
  (refine eM call16 λF hF=>?_)
  (repeat' (first|refine aK ?_|refine yW (λhc=>?_) λhc=>?_|(apply zG;apply xQ;refine wJ (zL (BE _ _ h1 h2) Z Z Z Z Z) Z ?_)|fail))
  exact zP [1000] Z Z Z Z
def jK (d:Dk) (lo hi:Int) (h1:0<=lo) (h2:lo<=hi) (u:hi<=1000000000):xP prog 68 [.ptr 1000 0 0,iA lo,iA hi] [(1000,fI d)] (iA (lo+nx d (hi-lo+1))) [(1000,fI (ad d))]:=by
 have hb:=yQ d (hi-lo+1) (by omega)
 (refine eM call68 λF hF=>?_)
 (repeat' (first|refine aK ?_|refine yW (λhc=>?_) λhc=>?_|(apply zG;apply xQ;refine qA (zL (yS d _ (by omega) (by omega)) Z Z Z Z Z) Z Z Z ?_)|fail))
 exact zP [1000] Z Z Z Z
structure Lg where
 jn:Int
 ph:Int
 fr:Int
 to:Int
 sc:Int
variable {post f4:List Lg}
structure Rq where
 id:Int
 vh:Int
 cls:Int
 til:Int
 legs:List Lg
instance:Inhabited Lg:=⟨⟨0,0,0,0,0⟩⟩
instance:Inhabited Rq:=⟨⟨0,0,0,0,[]⟩⟩
def yO (l:Lg):AV:= .agg [iA l.jn,iA l.ph,iA l.fr,iA l.to,iA l.sc]
def zY (r:Rq):AV:= .agg [iA r.id,iA r.vh,iA r.cls,iA r.til,zE yO r.legs]
def jy (j p:Int):Bool:=decide (0<=j/\j<4/\0<=p/\p<8)
def EX (j p f t f3:Int):Bool:=decide (0<=j/\j<4/\0<=p/\p<8/\0<=f3/\f3<=1073741824/\0<=f/\f<=t/\t<=600)
def GO (j p f t f3:Int):Lg:=if EX j p f t f3=true then⟨j,p,f3+f,f3+t,-1⟩else⟨0,0,0,0,0⟩
def QW (l:Lg):Bool:=decide (0<=l.jn/\l.jn<4/\0<=l.ph/\l.ph<8/\0<=l.fr/\l.fr<=l.to/\l.to<=2147483648/\ -1<=l.sc/\l.sc<=1073741824)
def EY (l:Lg) (f3:Int):Bool:=decide (l.fr<=f3/\f3<=l.to)
def fE (l:Lg) (f3:Int):Lg:=if EY l f3=true then(if l.sc= -1 then⟨l.jn,l.ph,l.fr,l.to,f3⟩else l)else⟨l.jn,l.ph,l.fr,l.to,-1⟩
def xf (j p:Int):xP prog 381 [iA j,iA p] [] (bA (jy j p)) []:=by
 (cases hb:jy j p with|false=>((refine eM call381 λF hF=>?_);((refine WW (I4 (λhc hc hc=>?_) (λhc hc hc=>?_) (λhc hc=>?_) λhc=>?_)));all_goals (first|exact zH|(simp only[jy,zBi]at hb;first|(exfalso;omega)|(apply vI;(exact zH);simp only[uS,zBi,zBc,zB3,zCj,zCp,zDa,zEa];omega))))|true=>(simp only[jy,zBc]at hb;(refine eM call381 λF hF=>?_);((refine WW ?_));all_goals (first|exact zH|(exfalso;omega)|(apply vI;(exact zH);simp only[uS,zBi,zBc,zB3,zCj,zCp,zDa,zEa];omega))))
def kI (n a b:Int):xP prog 296 [iA n,iA a,iA b] [] (bA (decide (a<=n/\n<=b))) []:=by
 cases hb:decide (a<=n/\n<=b)with
 |false=>
  rw[zBi]at hb
  (refine eM call296 λF hF=>?_)
  (refine WW (I2 (λhc=>?_) λhc=>?_))
  all_goals (first|exact zH|(exfalso;omega)|(apply vI;(exact zH);simp only[uS,zBi,zBc,zB3,zCj,zCp,zDa,zEa];omega))
 |true=>
  rw[zBc]at hb
  (refine eM call296 λF hF=>?_)
  (refine WW ?_)
  all_goals (first|exact zH|(exfalso;omega)|(apply vI;(exact zH);simp only[uS,zBi,zBc,zB3,zCj,zCp,zDa,zEa];omega))
def vf (j p f t f3:Int):xP prog 352 [iA j,iA p,iA f,iA t,iA f3] [] (.tup [yO (GO j p f t f3),iA (if EX j p f t f3=true then 0 else 8)]) []:=by
 have u:=xf j p;unfold GO
 cases hb:EX j p f t f3 with
 | false=>
  rw[Os zBm,Os zBm];unfold EX at hb;rw[zBi]at hb;unfold jy at u;unfold yO;by_cases z:0<=j/\j<4/\0<=p/\p<8
  .rw[zA9 z]at u
   (refine eM call352 λF hF=>?_)
   (have ga:=u;refine WW (I5 (λhc=>?_) (λhc hc=>?_) (λhc hc hc=>?_) (λhc hc hc hc=>?_) (λhc hc hc hc=>?_))<;>clear ga)
   all_goals (first|exact zH|(exfalso;omega))
  .rw[zA7 z]at u
   (refine eM call352 λF hF=>?_)
   (have ga:=u;refine WW ?_;clear ga)
   all_goals (first|exact zH|(exfalso;omega))
 |true=>
  rw[zA5 Z,zA5 Z];unfold EX at hb;rw[zBc]at hb;unfold jy at u;rw[zA9 (by omega)]at u;unfold yO
  (refine eM call352 λF hF=>?_)
  (have ga:=u;refine WW ?_;clear ga)
  exact zH
def BF (j p f t f3:Int):xP prog 292 [iA j,iA p,iA f,iA t,iA f3] [] (.tup [yO (GO j p f t f3),iA (if EX j p f t f3=true then 0 else 8)]) []:=by
 have u:=kI j 0 3;have z:=kI p 0 7;have I:=kI f3 0 1073741824;have L:=kI f 0 t;unfold GO
 cases hb:EX j p f t f3 with
 | false=>
  rw[Os zBm,Os zBm];unfold EX at hb;rw[zBi]at hb;unfold yO;by_cases h1:0<=j/\j<=3
  case neg=>
   rw[zA7 h1]at u
   (refine eM call292 λF hF=>?_)
   (have ga:=u;refine WW ?_;clear ga)
   exact zH
  rw[zA9 h1]at u;by_cases h2:0<=p/\p<=7
  case neg=>
   rw[zA7 h2]at z
   (refine eM call292 λF hF=>?_)
   (have ga:=u;have ge:=z;refine WW ?_;clear ga ge)
   exact zH
  rw[zA9 h2]at z;by_cases M:0<=f3/\f3<=1073741824
  case neg=>
   rw[zA7 M]at I
   (refine eM call292 λF hF=>?_)
   (have ga:=u;have ge:=z;have gn:=I;refine WW ?_;clear ga ge gn)
   exact zH
  rw[zA9 M]at I;by_cases O:0<=f/\f<=t
  case neg=>
   rw[zA7 O]at L
   (refine eM call292 λF hF=>?_)
   (have ga:=u;have ge:=z;have gn:=I;have gt:=L;refine WW ?_;clear ga ge gn gt)
   exact zH
  rw[zA9 O]at L
  (refine eM call292 λF hF=>?_)
  (have ga:=u;have ge:=z;have gn:=I;have gt:=L;refine WW ?_;clear ga ge gn gt)
  all_goals (first|exact zH|(exfalso;omega))
 |true=>
  rw[zA5 Z,zA5 Z];unfold EX at hb;rw[zBc]at hb;rw[zA9 (by omega)]at u z I L;unfold yO
  (refine eM call292 λF hF=>?_)
  (have ga:=u;have ge:=z;have gn:=I;have gt:=L;refine WW ?_;clear ga ge gn gt)
  exact zH
def jm (l:Lg) (f3:Int):xP prog 274 [yO l,iA f3] [] (bA (EY l f3)) []:=by
 (cases hb:EY l f3 with|false=>((refine eM call274 λF hF=>?_);((refine WW (I2 (λhc=>?_) λhc=>?_)));all_goals (first|exact zH|(simp only[EY,zBi]at hb;first|(exfalso;omega)|(apply vI;(exact zH);simp only[uS,zBi,zBc,zB3,zCj,zCp,zDa,zEa];omega))))|true=>(simp only[EY,zBc]at hb;(refine eM call274 λF hF=>?_);((refine WW ?_));all_goals (first|exact zH|(exfalso;omega)|(apply vI;(exact zH);simp only[uS,zBi,zBc,zB3,zCj,zCp,zDa,zEa];omega))))
def uf (l:Lg) (f3:Int):xP prog 247 [yO l,iA f3] [] (bA (EY l f3)) []:=by
 have c:=kI f3 l.fr l.to;unfold EY;generalize decide (l.fr<=f3/\f3<=l.to)=b at*
 (refine eM call247 λF hF=>?_)
 (have ga:=c;refine WW ?_;clear ga)
 exact zH
def eE (l:Lg) (f3:Int):xP prog 226 [yO l,iA f3] [] (yO (fE l f3)) []:=by
 have c:=jm l f3;unfold fE;generalize EY l f3=b at*
 cases b with
 |false=>
  rw[Os zBm];unfold yO at*
  (refine eM call226 λF hF=>?_)
  (have ga:=c;refine WW ?_;clear ga)
  exact zH
 | true=>
  rw[zA5 Z];by_cases h:l.sc= -1
  .rw[zA5 h];unfold yO at*
   (refine eM call226 λF hF=>?_)
   (have ga:=c;refine WW ?_;clear ga)
   exact zH
  .rw[Os h];unfold yO at*
   (refine eM call226 λF hF=>?_)
   (have ga:=c;refine WW ?_;clear ga)
   exact zH
def gA (l:Lg) (f3:Int):xP prog 194 [yO l,iA f3] [] (yO (fE l f3)) []:=by
 have c:=uf l f3;unfold fE;generalize EY l f3=b at*
 cases b with
 |false=>
  rw[Os zBm];unfold yO at*
  (refine eM call194 λF hF=>?_)
  (have ga:=c;refine WW ?_;clear ga)
  exact zH
 | true=>
  rw[zA5 Z];by_cases h:l.sc= -1
  .rw[zA5 h];unfold yO at*
   (refine eM call194 λF hF=>?_)
   (have ga:=c;refine WW ?_;clear ga)
   exact zH
  .rw[Os h];unfold yO at*
   (refine eM call194 λF hF=>?_)
   (have ga:=c;refine WW ?_;clear ga)
   exact zH
def dm (l:Lg):xP prog 398 [yO l] [] (bA (QW l)) []:=by
 have u:=xf l.jn l.ph
 cases hb:QW l with
 | false=>
  unfold QW at hb;rw[zBi]at hb;unfold jy at u;by_cases z:0<=l.jn/\l.jn<4/\0<=l.ph/\l.ph<8
  .rw[zA9 z]at u
   (refine eM call398 λF hF=>?_)
   (have ga:=u;refine WW (I5 (λhc hc hc hc=>?_) (λhc hc hc hc=>?_) (λhc hc hc=>?_) (λhc hc=>?_) λhc=>?_)<;>clear ga)
   all_goals (first|exact zH|(exfalso;omega)|(apply vI;(exact zH);simp only[uS,zBi,zBc,zB3,zCj,zCp,zDa,zEa];omega))
  .rw[zA7 z]at u
   (refine eM call398 λF hF=>?_)
   (have ga:=u;refine WW ?_;clear ga)
   all_goals (first|exact zH|(exfalso;omega)|(apply vI;(exact zH);simp only[uS,zBi,zBc,zB3,zCj,zCp,zDa,zEa];omega))
 |true=>
  unfold QW at hb;rw[zBc]at hb;unfold jy at u;rw[zA9 (by omega)]at u
  (refine eM call398 λF hF=>?_)
  (have ga:=u;refine WW ?_;clear ga)
  all_goals (first|exact zH|(exfalso;omega)|(apply vI;(exact zH);simp only[uS,zBi,zBc,zB3,zCj,zCp,zDa,zEa];omega))
def Sh (l:Lg):xP prog 369 [yO l] [] (bA (QW l)) []:=by
 have u:=kI l.jn 0 3;have z:=kI l.ph 0 7;have I:=kI l.fr 0 l.to;have L:=kI l.sc (-1) 1073741824
 cases hb:QW l with
 | false=>
  unfold QW at hb;rw[zBi]at hb;by_cases h1:0<=l.jn/\l.jn<=3
  case neg=>
   rw[zA7 h1]at u
   (refine eM call369 λF hF=>?_)
   (have ga:=u;refine WW ?_;clear ga)
   exact zH
  rw[zA9 h1]at u;by_cases h2:0<=l.ph/\l.ph<=7
  case neg=>
   rw[zA7 h2]at z
   (refine eM call369 λF hF=>?_)
   (have ga:=u;have ge:=z;refine WW ?_;clear ga ge)
   exact zH
  rw[zA9 h2]at z;by_cases M:0<=l.fr/\l.fr<=l.to
  case neg=>
   rw[zA7 M]at I
   (refine eM call369 λF hF=>?_)
   (have ga:=u;have ge:=z;have gn:=I;refine WW ?_;clear ga ge gn)
   exact zH
  rw[zA9 M]at I;by_cases O: -1<=l.sc/\l.sc<=1073741824
  case neg=>
   rw[zA7 O]at L
   (refine eM call369 λF hF=>?_)
   (have ga:=u;have ge:=z;have gn:=I;have gt:=L;refine WW (I2 (λhc=>?_) λhc=>?_)<;>clear ga ge gn gt)
   all_goals (first|exact zH|(exfalso;omega))
  rw[zA9 O]at L
  (refine eM call369 λF hF=>?_)
  (have ga:=u;have ge:=z;have gn:=I;have gt:=L;refine WW ?_;clear ga ge gn gt)
  all_goals (first|exact zH|(exfalso;omega))
 |true=>
  unfold QW at hb;rw[zBc]at hb;rw[zA9 (by omega)]at u z I L
  (refine eM call369 λF hF=>?_)
  (have ga:=u;have ge:=z;have gn:=I;have gt:=L;refine WW ?_;clear ga ge gn gt)
  all_goals (first|exact zH|(exfalso;omega))
def kO:List Lg->List Lg->Bool
 |_,[]=>true
 |f4,x::post=>QW x&&(!(f4.any λy=>y.jn==x.jn)&&kO (f4++[x]) post)
def BG (l:List Lg):Bool:=decide (1<=(ln l:Int)/\(ln l:Int)<=3)&&kO [] l
def qf {x:Lg} (h:QW x=false):kO f4 (x::post)=false:=by simp[kO,h]
theorem gf {x y:Lg} (u:y∈f4) (h:y.jn=x.jn):kO f4 (x::post)=false:=by grind [kO]
theorem JM {x:Lg} (h:QW x=true) (u:∀y∈f4,y.jn≠x.jn):kO f4 (x::post)=kO (f4++[x]) post:=by grind [QW,kO]
def df (l:List Lg):xP prog 384 [zE yO l] [] (bA (BG l)) []:=by
 have hl:=zA yO l;unfold BG;by_cases O:1<=(ln l:Int)/\(ln l:Int)<=3
 case neg=>
  rw[zA7 O,zB8];by_cases h1:1<=(ln l:Int)
  all_goals
   (refine eM call384 λF hF=>?_)
   exact ly
 rw[zA9 O,zBh];obtain⟨h1,O⟩:=O
 (refine eM call384 λF hF=>?_)
 (refine WW ?_)
 (refine uZ (l) [] [] [0,15,16] [17,0,15,16] Z (λi f4 T U zs=>(∀post,l=f4++post->kO [] l=kO f4 post)/\zs=⟨(17,iA i)::T,U⟩) (Lp ?_ ?_ ?_))
 .exact⟨λpost h=>by rw[h];rfl,rfl⟩
 .rintro i f4 x post st I hi ⟨hp,rfl⟩;have hy:=yG yO I hi;have au:=zW I hi;rw[hp _ I];have M:=dm x
  have u:QW x=true->(∀y∈f4,y.jn≠x.jn)->∀p,l=(f4++[x])++p->kO f4 (x::post)=kO (f4++[x]) p:=λa b p h=>by
   have e:p=post:=by rw[I,zBy]at h;simpa using h.symm
   rw[e];exact JM a b
  cases hv:QW x with
  |false=>
   rw[qf hv];rw[hv]at M;clear I hp u
   (have ga:=M;refine WW ?_;clear ga)
   exact zH
  | true=>
   rw[hv]at M;have W:l.take i=f4:=by rw[I,<-hi];simp
   have ap:(List.map yO (pi (i:Int).toNat l)).length=(l.take i).length:=zA yO (l.take i);have ar:(l.take i).length=i:=by rw[W];exact hi
   (have ga:=M;refine WW ?_;clear ga)
   (refine uZ (l.take i) [4] [4] [0,4,15,16,17,27,28] [29,0,4,15,16,17,27,28] Z (λi f4 T U zs=>(∀y∈f4,y.jn≠x.jn)/\zs=⟨(29,iA i)::T,U⟩) (Lp ?_ ?_ ?_))
   .exact⟨by simp,rfl⟩
   .rintro k pr y po ac L hk ⟨hp2,rfl⟩;have av:=yG yO L hk;have ag:=zW L hk;by_cases he:y.jn=x.jn
    .rw[gf (by rw[<-W,L];simp) he];clear L I hp u
     exact ly
    .have V:∀z∈pr++[y],z.jn≠x.jn:=λz R=>by
      simp only[zBs,zB1]at R
      rcases R with R|rfl
      .exact hp2 z R
      .exact he
     clear L I hp u
     (refine WW ?_)
     exact⟨V,rfl⟩
   .rintro ac ⟨hp2,rfl⟩;have S:=u hv (by rw[<-W];exact hp2);clear I hp u
    (refine WW ?_)
    exact⟨S,rfl⟩
 .rintro st ⟨hp,rfl⟩;rw[hp [] zV]
  exact ly
def wQ (n a b:Int):xP prog 334 [iA n,iA a,iA b] [] (bA (decide (a<=n/\n<=b))) []:=by
 cases hb:decide (a<=n/\n<=b)with
 |false=>
  rw[zBi]at hb
  (refine eM call334 λF hF=>?_)
  (refine WW (I2 (λhc=>?_) λhc=>?_))
  all_goals (first|exact zH|(exfalso;omega)|(apply vI;(exact zH);simp only[uS,zBi,zBc,zB3,zCj,zCp,zDa,zEa];omega))
 |true=>
  rw[zBc]at hb
  (refine eM call334 λF hF=>?_)
  (refine WW ?_)
  all_goals (first|exact zH|(exfalso;omega)|(apply vI;(exact zH);simp only[uS,zBi,zBc,zB3,zCj,zCp,zDa,zEa];omega))
def GP (l:List Lg) (hn:ln l<=1000000):xP prog 335 [zE yO l] [] (bA (BG l)) []:=by
 have hl:=zA yO l;have cw:=wQ ((l.map yO).length:Int) 1 3;have e:decide (1<=((l.map yO).length:Int)/\((l.map yO).length:Int)<=3)=decide (1<=(ln l:Int)/\(ln l:Int)<=3):=by rw[hl]
 rw[e]at cw;clear e;unfold BG
 (refine eM call335 λF hF=>?_)
 (refine WW ?_)
 (refine uZ (l) [] [] [0,7,8] [9,0,7,8] Z (λi f4 T U zs=>(∀post,l=f4++post->kO [] l=kO f4 post)/\zs=⟨(9,iA i)::T,U⟩) (Lp ?_ ?_ ?_))
 .exact⟨λpost h=>by rw[h];rfl,rfl⟩
 .rintro i f4 x post st I hi ⟨hp,rfl⟩;have hy:=yG yO I hi;have ar:=zW I hi;rw[hp _ I];have M:=Sh x
  have u:QW x=true->(∀y∈f4,y.jn≠x.jn)->∀p,l=(f4++[x])++p->kO f4 (x::post)=kO (f4++[x]) p:=λa b p h=>by
   have e:p=post:=by rw[I,zBy]at h;simpa using h.symm
   rw[e];exact JM a b
  cases hv:QW x with
  |false=>
   rw[qf hv,zC6];rw[hv]at M;clear I hp u
   (have ga:=M;refine WW ?_;clear ga)
   exact zH
  | true=>
   rw[hv]at M;have V:l.take i=f4:=by rw[I,<-hi];simp
   have ag:(List.map yO (pi (i:Int).toNat l)).length=(l.take i).length:=zA yO (l.take i);have ap:(l.take i).length=i:=by rw[V];exact hi
   (have ga:=M;refine WW ?_;clear ga)
   (refine uZ (l.take i) [4] [4] [0,4,7,8,9,19,20] [21,0,4,7,8,9,19,20] Z (λi f4 T U zs=>(∀y∈f4,y.jn≠x.jn)/\zs=⟨(21,iA i)::T,U⟩) (Lp ?_ ?_ ?_))
   .exact⟨by simp,rfl⟩
   .rintro k pr y po W L hk ⟨hp2,rfl⟩;have au:=yG yO L hk;have ac:=zW L hk;by_cases he:y.jn=x.jn
    .rw[gf (by rw[<-V,L];simp) he,zC6];clear L I hp u
     exact ly
    .have S:∀z∈pr++[y],z.jn≠x.jn:=λz O=>by
      simp only[zBs,zB1]at O
      rcases O with O|rfl
      .exact hp2 z O
      .exact he
     clear L I hp u
     (refine WW ?_)
     exact⟨S,rfl⟩
   .rintro W ⟨hp2,rfl⟩;have R:=u hv (by rw[<-V];exact hp2);clear I hp u
    (refine WW ?_)
    exact⟨R,rfl⟩
 .rintro st ⟨hp,rfl⟩;rw[hp [] zV,show kO l []=true from rfl,zD1];generalize decide (1<=(ln l:Int)/\(ln l:Int)<=3)=b at*
  (have ga:=cw;refine WW ?_;clear ga)
  exact zH
structure RqO (r:Rq):Prop where
 i0:0<=r.id
 i1:r.id<=4294967295
 v0:0<=r.vh
 v1:r.vh<=4294967295
 c0:0<=r.cls
 c1:r.cls<=3
 t0:0<=r.til
 t1:r.til<=2147483648
 lg:BG r.legs=true
structure cN (l:List Rq):Prop where
 ok:∀r∈l,RqO r
 so:l.Pairwise λa b=>a.id<b.id
 n4:l.length<=4
theorem cN.lt {l:List Rq} (h:cN l) {i:Nat} (h0:0<i) (hi:i<ln l):(l.getD (i-1) dd).id<(l.getD i dd).id:=by
 have:=List.pairwise_iff_getElem.1 h.so (i-1) i (by omega) hi (by omega)
 grind
theorem YU {l:List Lg} (h:BG l=true):1<=(ln l:Int)/\(ln l:Int)<=3:=by grind [BG]
def NX (n:Int):xP prog 382 [iA n] [] (bA (decide (0<=n/\n<=4294967295))) []:=by
 cases hb:decide (0<=n/\n<=4294967295)with
 |false=>(rw[zBi]at hb;(refine eM call382 λF hF=>?_);((refine WW (I2 (λhc=>?_) λhc=>?_)));all_goals (first|exact zH|(exfalso;omega)|(apply vI;(exact zH);simp only[uS,zBi,zBc,zB3,zCj,zCp,zDa,zEa];omega)))
 |true=>(rw[zBc]at hb;(refine eM call382 λF hF=>?_);((refine WW ?_));all_goals (first|exact zH|(exfalso;omega)|(apply vI;(exact zH);simp only[uS,zBi,zBc,zB3,zCj,zCp,zDa,zEa];omega)))
def Sc (n:Int):xP prog 383 [iA n] [] (bA (decide (0<=n/\n<=3))) []:=by
 cases hb:decide (0<=n/\n<=3)with
 |false=>(rw[zBi]at hb;(refine eM call383 λF hF=>?_);((refine WW (I2 (λhc=>?_) λhc=>?_)));all_goals (first|exact zH|(exfalso;omega)|(apply vI;(exact zH);simp only[uS,zBi,zBc,zB3,zCj,zCp,zDa,zEa];omega)))
 |true=>(rw[zBc]at hb;(refine eM call383 λF hF=>?_);((refine WW ?_));all_goals (first|exact zH|(exfalso;omega)|(apply vI;(exact zH);simp only[uS,zBi,zBc,zB3,zCj,zCp,zDa,zEa];omega)))
def af (n:Int):xP prog 355 [iA n] [] (bA (decide (0<=n/\n<=1073741824))) []:=by
 cases hb:decide (0<=n/\n<=1073741824)with
 |false=>(rw[zBi]at hb;(refine eM call355 λF hF=>?_);((refine WW (I2 (λhc=>?_) λhc=>?_)));all_goals (first|exact zH|(exfalso;omega)|(apply vI;(exact zH);simp only[uS,zBi,zBc,zB3,zCj,zCp,zDa,zEa];omega)))
 |true=>(rw[zBc]at hb;(refine eM call355 λF hF=>?_);((refine WW ?_));all_goals (first|exact zH|(exfalso;omega)|(apply vI;(exact zH);simp only[uS,zBi,zBc,zB3,zCj,zCp,zDa,zEa];omega)))
def UP (l:List Rq) (q:Int) (hv:cN l) (hq:(ln l:Int)<=q):xP prog 354 [zE zY l,iA q] [] (bA true) []:=by
 have hl:=zA zY l;have h4:=hv.n4
 (refine eM call354 λF hF=>?_)
 (refine WW ?_)
 (refine zN (ln l) [] [] [0,16,17] [18,0,16,17] Z (λi T U=>⟨(18,iA i)::T,U⟩) (Lq ?_ ?_))
 .intro i hi;have hy:=zJ zY l i hi;have I:l.getD i dd∈l:=by simp[py,hi]
  obtain⟨i0,i1,v0,v1,c0,c1,t0,t1,S⟩:=hv.ok _ I;have L:=NX (l.getD i dd).id;have M:=NX (l.getD i dd).vh;have O:=Sc (l.getD i dd).cls;have R:=df (l.getD i dd).legs;rw[zA9 (by omega)]at L M O;rw[S]at R;by_cases z:0<i
  .have u:=yF zY l ((i:Int)-1) (by omega) (by omega);rw[show((i:Int)-1).toNat=i-1 by omega]at u;have W:(l.map zY)[((i:Int)-1).toNat]? =some (zY (l.getD (i-1) dd)):=by rw[show((i:Int)-1).toNat=i-1 by omega];exact u
   have V:=hv.lt z hi;clear u I S;generalize l.getD i dd=t,l.getD (i-1) dd=p at *
   (have ga:=L;have ge:=M;have gn:=O;have gt:=R;refine WW ?_;clear ga ge gn gt)
   rfl
  .obtain rfl:i=0:=by omega
   clear I S;generalize l.getD 0 dd=t at*
   (have ga:=L;have ge:=M;have gn:=O;have gt:=R;refine WW ?_;clear ga ge gn gt)
   rfl
 .exact ly
def YV (l:List Rq) (q:Int) (hv:cN l) (hq:(ln l:Int)<=q):xP prog 295 [zE zY l,iA q] [] (bA true) []:=by
 have hl:=zA zY l;have h4:=hv.n4
 (refine eM call295 λF hF=>?_)
 (refine WW ?_)
 (refine zN (ln l) [] [] [0,1,7,8] [9,0,1,7,8] Z (λi T U=>⟨(9,iA i)::T,U⟩) (Lq ?_ ?_))
 .intro i hi;have hy:=zJ zY l i hi;have L:l.getD i dd∈l:=by simp[py,hi]
  obtain⟨i0,i1,v0,v1,c0,c1,t0,t1,z⟩:=hv.ok _ L;have M:=wQ (l.getD i dd).id 0 4294967295;have O:=wQ (l.getD i dd).vh 0 4294967295;have R:=wQ (l.getD i dd).cls 0 3;have V:=wQ (l.getD i dd).til 0 2147483648;have S:=GP (l.getD i dd).legs (by have:=YU z;omega);rw[zA9 (by omega)]at M O R V;rw[z]at S;by_cases I:0<i
  .have u:=yF zY l ((i:Int)-1) (by omega) (by omega);rw[show((i:Int)-1).toNat=i-1 by omega]at u;have ac:(l.map zY)[((i:Int)-1).toNat]? =some (zY (l.getD (i-1) dd)):=by rw[show((i:Int)-1).toNat=i-1 by omega];exact u
   have W:=hv.lt I hi;clear u L z;generalize l.getD i dd=t,l.getD (i-1) dd=p at *
   (have ga:=M;have ge:=O;have gn:=R;have gt:=V;have gv:=S;refine WW ?_;clear ga ge gn gt gv)
   rfl
  .obtain rfl:i=0:=by omega
   clear L z;generalize l.getD 0 dd=t at*
   (have ga:=M;have ge:=O;have gn:=R;have gt:=V;have gv:=S;refine WW ?_;clear ga ge gn gt gv)
   rfl
 .exact ly
def GQ (n:Int) (i:Nat):Int:=IntKind.u8.wrap (BitVec.ofInt IntKind.u8.bits (IntKind.u8.wrap ((IntKind.u64.wrap n).fdiv (2 ^ (min (8*(i:Int)).toNat IntKind.u64.bits)))) ^^^ BitVec.ofInt IntKind.u8.bits (29*(i:Int)+7)).toNat
def cQ (n:Int):List Int:=(pb 8).map (GQ n)
def cA (n:Int):xP prog 35 [iA n] [] (zE yA (cQ n)) []:=by
 have L:∀i:Nat,((pb i).map (GQ n)).map yA=((pb i).map (GQ n)).map yA:=λ_=>rfl
 (refine eM call35 λF hF=>?_)
 (repeat' (first|refine aK ?_|refine yW (λhc=>?_) λhc=>?_|fail))
 refine zQ 3 1001 1 Z Z Z ?_
 refine wS (λk st=>∃i:Nat,k+i=8/\st=⟨[(0,iA n),(3,.ref 1001 0 (((pb i).map (GQ n)).map yA).length),(5,iA i)],[(1001,.arr 1 (((pb i).map (GQ n)).map yA) true)]⟩)
  8 [1001] [0,3,5] Z ⟨0,rfl,rfl⟩ ?_
 rintro k st ⟨i,hi,rfl⟩;by_cases u:i<8
 .have z:((pb (i+1)).map (GQ n)).map yA=((pb i).map (GQ n)).map yA++[yA (GQ n i)]:=by rw[zC5];simp
  have I:((pb i).map (GQ n)).length=i:=by simp
  (repeat' (first|refine aK ?_|refine yW (λhc=>?_) λhc=>?_|fail))
  exact⟨k-1,by omega,i+1,by omega,by rw[z];rfl⟩
 .obtain rfl:i=8:=by omega
  (repeat' (first|refine aK ?_|refine yW (λhc=>?_) λhc=>?_|fail))
  exact zI [] Z Z (zBq (AV.sl false) zA8) Z
def Ir (d:Dk):Dk:=ad (ad (ad (ad (ad (ad (ad d))))))
def Zj (d:Dk) (z u:Int):Ag:=⟨cQ (1000+z),u,3,[1+nx d (3-1+1),1+nx (ad d) (3-1+1),nx (ad (ad d)) 3,nx (ad (ad (ad d))) 3],1+nx (ad (ad (ad (ad d)))) (3-1+1),1+nx (ad (ad (ad (ad (ad d))))) (2-1+1),
 1+nx (ad (ad (ad (ad (ad (ad d)))))) (3-1+1),1+nx (ad (ad (ad (ad (ad (ad d)))))) (3-1+1)+nx (Ir d) 5⟩
def bm (d:Dk) (z u:Int) (h0:0<=z) (h1:z<=1000):xP prog 92 [.ptr 1000 0 0,iA z,iA u] [(1000,fI d)] (vP (Zj d z u)) [(1000,fI (ad (Ir d)))]:=by
 have hb:=yQ (ad (ad (ad (ad (ad (ad d)))))) (3-1+1) (by omega);have L:=yQ (Ir d) 5 (by omega);have I:=cA (1000+z);unfold Zj Ir at *;generalize cQ (1000+z)=M at*
 (refine eM call92 λF hF=>?_)
 (repeat' (first|refine aK ?_|refine yW (λhc=>?_) λhc=>?_|(apply zG;apply xQ;(first|(refine vJ 35 ?_;first|refine wJ (zL (I) Z Z Z Z Z) Z ?_|refine qA (zL (I) Z Z Z Z Z) Z Z Z ?_|refine aO (zL (I) Z Z Z Z Z) Z Z Z ?_)|(refine vJ 68 ?_;first|refine wJ (zL (jK _ _ _ (by omega) (by omega) (by omega)) Z Z Z Z Z) Z ?_|refine qA (zL (jK _ _ _ (by omega) (by omega) (by omega)) Z Z Z Z Z) Z Z Z ?_|refine aO (zL (jK _ _ _ (by omega) (by omega) (by omega)) Z Z Z Z Z) Z Z Z ?_)|(refine vJ 16 ?_;first|refine wJ (zL (yS _ _ (by omega) (by omega)) Z Z Z Z Z) Z ?_|refine qA (zL (yS _ _ (by omega) (by omega)) Z Z Z Z Z) Z Z Z ?_|refine aO (zL (yS _ _ (by omega) (by omega)) Z Z Z Z Z) Z Z Z ?_)))|fail))
 exact zP [1000] Z Z Z Z
