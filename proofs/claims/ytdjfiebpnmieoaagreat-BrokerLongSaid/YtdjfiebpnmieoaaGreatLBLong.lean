/- law28: BrokerLong. -/
import Derived.Test.YtdjfiebpnmieoaaGreatC30
namespace Go.Proofs.YtdjfiebpnmieoaaGreat.Av
set_option linter.all false
set_option maxRecDepth 4000
set_option maxHeartbeats 8000000
open List renaming replicate->nm
def U5 (k:Int):Ce (gL k):=⟨bF,zAr _⟩
theorem Nj:∀(l:List Ev) {b:TB},CF b->(∀e∈l,Ce e)->b.y.f4+(l.length:Int)<1000000000->∀p∈SW b l,p.1.length<=1000
 | [],_,_,_,_,p,u=>by cases u
 | e::l,b,h,z,C,p,u=>by
  rw[zAm]at C;have k:=VE h zB (z e zW);have kn:=k.n;obtain⟨N,hN,A⟩:=FE b h
  rcases zA5.1 (show p∈(if(PD b e).fl=true then [((PD b e).S,(PD b e).f)]else [])++SW (PD b e).b l from u)with u|u
  .split at u
   .rename_i B;rw[zBf.1 u];have:=k.t B;dsimp only;omega
   .cases u
  .exact Nj l k.i (λx hx=>z x OT) zB p u
theorem long_c (l:List Int) (hl:l.length<=9223372036854775807) (n:Int):zO 4 [zD iA l,iA n] [] (bA true) []:=by
 have Y:=th;have kn:=Mx l hl;have kc:=Xb ⟨l,0,zAr _,hl⟩ 63;have hv:=rx ⟨l,0,zAr _,hl⟩ 63 zB;generalize JU ⟨l,0,zAr _,hl⟩ 63=c,C7 ⟨l,0,zAr _,hl⟩ 63=e0 at *;have L:=Vn n 3 zB zB;have m0:=zD4 n (show(3:Int)≠0 by omega);have m1:=zDq n (show(0:Int)<3 by omega);obtain⟨M,S⟩:∃M:Nat,n % 3=(M:Int):=⟨(n % 3).toNat,zB⟩;rw[S]at L m0 m1
 have u:∀e∈(gL 1::nm (398+M) (gL 9))++[gL 6,gL 6],Ce e:=λe E=>by
  simp only[zA5,zBv,zEq,zEw,zFt]at E
  rcases E with(rfl|⟨_,rfl⟩)|rfl|rfl<;>exact U5 _
 have B:((gL 1::nm (398+M) (gL 9))++[gL 6,gL 6]).length<=1000:=by simp;omega
 have G:=Gj c hv _ zB u;have I:=Ay c hv _ zB u
 have W:(SW (kM c) (((gL 1::nm (398+M) (gL 9))++[gL 6,gL 6]).take 400)).length<=400:=by
  have:=(FG (((gL 1::nm (398+M) (gL 9))++[gL 6,gL 6]).take 400) (CZ c hv) (λe h=>u e (zB5 h)) (by show(0:Int)+_<_;rw[zAw];omega)).2.2.2.2;rw[zAw]at this;omega
 have C:=Nj (((gL 1::nm (398+M) (gL 9))++[gL 6,gL 6]).take 400) (CZ c hv) (λe h=>u e (zB5 h)) (by show(0:Int)+_<_;rw[zAw];omega);have ks:=Rs _ zB C;clear C;generalize V:SW (kM c) (((gL 1::nm (398+M) (gL 9))++[gL 6,gL 6]).take 400)=R at *;have z:∀i,((gL 1::nm i (gL 9)).map PE).length=i+1:=λi=>by simp
 have A:∀i,(gL 1::nm (i+1) (gL 9)).map PE=(gL 1::nm i (gL 9)).map PE++[.agg [iA 9,iA 0,iA 0,iA 0,.sl false []]]:=λi=>by
  rw[zD7];simp[PE,gL,zD]
 rw[show zD PE ((gL 1::nm (398+M) (gL 9))++[gL 6,gL 6])= .sl false ((gL 1::nm (398+M) (gL 9)).map PE++[.agg [iA 6,iA 0,iA 0,iA 0,.sl false []],.agg [iA 6,iA 0,iA 0,iA 0,.sl false []]]) by unfold zD;rw[zAf];rfl]at G I;clear u B V hv W;unfold wO at *;refine eM Tryz.call4 λF hF=>?_
 (have gd:=kn;have gn:=kc;have gt:=L;(repeat' (first|refine dZ ?_|apply yZ|apply xM|intro hc|(apply zG;first|(apply yR;refine QF 10 Z Z Z ?_;refine qB (nw:=[1041]) (yT tok 1041 (xs:=[.agg [iA 1,iA 0,iA 0,iA 0,.sl false []]]) Z Z Z Z Z Z Z Z Z) Z Z Z ?_))|refine SB ?_|fail))<;>clear gd gn gt)
 rw[show 400+(M:Int)-2=((398+M:Nat):Int) by omega];refine uG 1041 Z ?_;refine zN (398+M) [1041,5] [5] [5,15] [6,16,5,15] Z (λi T U=>⟨(6,.ref 1041 0 ((gL 1::nm i (gL 9)).map PE).length)::(16,iA i)::T,(1041,.arr 5 ((gL 1::nm i (gL 9)).map PE) true)::U⟩) (Lq ?_ ?_)
 .intro i hi;have O:=z i;rw[A i];clear A z;generalize (gL 1::nm i (gL 9)).map PE=X at*
  (repeat' (first|refine dZ ?_|apply yZ|apply xM|intro hc|(apply zG;first|(apply yR;refine QF 19 Z Z Z ?_;refine kD tok Z Z ?_))|refine SB ?_|fail))
  rfl
 .have O:=z (398+M);clear A z;generalize (gL 1::nm (398+M) (gL 9)).map PE=X at*
  (repeat' (first|refine WYX ?_|apply yZ|apply xM|intro hc|(apply zG;first|(apply yR;refine QF 24 Z Z Z ?_;refine QF 25 Z Z Z ?_;refine kD tok Z Z ?_))|refine SB ?_|fail))
  refine wJ [5] [5,6] Z ?_
  (conv=>whnf)
  simp only[zAu,zAb];exact ld (aB G I ks Y)
