/- Part 14. -/
import Derived.Test.YtdjfiebpnmieoaaGreatC13
namespace Go.Proofs.YtdjfiebpnmieoaaGreat.Av
open Tryz
set_option linter.all false
set_option maxRecDepth 4000
set_option maxHeartbeats 4000000
open List renaming length->ln,replicate->nm,range->ny,getD->oj
open Inhabited renaming default->dd
variable {l:List Tk}
def Ny (t:Tk):zO 410 [yP t] [] (bA (!t.used)) []:=by
 obtain⟨u,a,b,c,d,e⟩:=t
 cases u with
 |true=>
  rw[show yP ⟨true,a,b,c,d,e⟩= .agg [bA true,zD yA a,iA b,iA c,iA d,iA e]from Z];refine eM call410 λF hF=>?_
  exact lc
 |false=>
  rw[show yP ⟨false,a,b,c,d,e⟩= .agg [bA false,zD yA a,iA b,iA c,iA d,iA e]from Z];refine eM call410 λF hF=>?_
  exact lc
def U7 (l:List Tk) (A:ln l<=1000000) (k:Nat) (hk:k<ln l) (h1:∀i,i<k->(l.getD i dd).used=true) (h2:(l.getD k dd).used=false):zO 409 [zD yP l,.fn 410 []] [] (iA k) []:=by
 have hl:=zA yP l;refine eM call409 λF hF=>?_
 refine WW ?_;refine yW (ln l) [] [] [0,1,7] [8,0,1,7] Z (λi T U z=>(i<=k)/\z=⟨(8,iA i)::T,U⟩) (Lp ?_ ?_ ?_)
 .exact⟨zAr _,rfl⟩
 .rintro i st hi ⟨hik,rfl⟩;have B:=zJ yP l i hi;have c:=Ny (l.getD i dd);by_cases u:i=k
  .subst u;rw[h2]at c;generalize l.getD i dd=t at *;exact lk c
  .rw[h1 i zB]at c;generalize l.getD i dd=t at *;refine zQ c ?_;exact⟨zB,rfl⟩
 .rintro st ⟨hik,rfl⟩;exfalso;omega
def Yc (u f4:Int):Int:=if 0<u then f4+u else 0
def Jw (l:List Tk) (k:Nat) (t:Tk) (n:Nat) (u:n=ln l):zD yP (l.set k t)= .sl false (((l.map yP).set k (yP t)).take n):=by grind [zD,yP,List.map_set,List.take_of_length_le]
theorem zY {α:Type} [Inhabited α] (l:List α) (i:Nat) (h:i<ln l):l.getD i dd∈l:=by grind
def U4 (l:List Tk):Prop:=∀t∈l,t.used=true->Vj t.rights 10=false
def v8 (l o:List Tk):Prop:=U4 l->U4 o
def Ke (l:List Tk) (s:Int) (j:Nat):Tk:=if Oj l j s=true then nc else l.getD j dd
def ON (l:List Tk) (s:Int) (n:Nat):List Tk:=(ny (ln l)).map λj=>if j<n then Ke l s j else l.getD j dd
def LA (l:List Tk) (s:Int) (n:Nat):(ON l s n).length=ln l:=by simp[ON]
def Bq (l:List Tk) (s:Int):ON l s 0=l:=by apply zBb<;>grind [ON,List.getElem?_range,oj,List.getElem?_eq_none,ny]
def T4 (l:List Tk) (s:Int) (n:Nat) (h:n<ln l):(ON l s n)[n]? =some (l.getD n dd):=by grind [ON]
def Aq (l:List Tk) (s:Int) (n:Nat) (h:n<ln l):ON l s (n+1)=(ON l s n).set n (Ke l s n):=by apply zBb<;>grind [ON,Ke,List.length_map,List.length_range,List.getElem?_range,List.getElem?_eq_none,List.range]
def rj (l:List Tk) (hb:GD l) (hv:NU l=true) (s:Int) (hs:1<=s/\s<8) (h8:ln l=8) (Y:(l.getD s.toNat dd).used=true):zO 348 [zD yP l,iA s] [] (.tup [zD yP (ON l s (ln l)),iA 0]) []:=by
 have E:=PA l;rw[hv]at E;have I:=TP l hb;have ac:=zA yP l;have hy:=yF yP l s zB zB;have hd:=λj=>Ep l j s
 have W:=Wd;generalize l.getD s.toNat dd=t at *;obtain⟨u,M,O,R,S,V⟩:=t;dsimp only at Y;subst Y;rw[show yP ⟨true,M,O,R,S,V⟩= .agg [bA true,zD yA M,iA O,iA R,iA S,iA V]from Z]at hy;refine eM call348 λF hF=>?_
 refine yJ (xV E I) ?_;refine zN (ln l) [1001] [] [0,1,6,26] [27,0,1,6,26] Z (λi T U=>⟨(27,iA i)::T,(1001,.arr 6 ((ON l s i).map yP) false)::U⟩) ?_;(conv=>whnf);refine⟨by(rw[Bq];rfl),?_,?_⟩
 .intro i hi;have C:((ON l s i).map yP)[i]? =some (yP (l.getD i dd)):=by rw[zAi,T4 l s i hi];rfl
  have G:=hd i;have ag:i<((ON l s i).map yP).length:=by rw[zAa,LA];exact hi
  rw[Aq l s i hi,zBs];have A:(l.getD i dd)=(l.getD i dd):=rfl
  have z:((ON l s i).map yP).set i (yP (l.getD i dd))=(ON l s i).map yP:=by
   rw[zAz]at C;obtain⟨h,e⟩:=C;rw[<-e,zFx]
  unfold Ke
  cases B:Oj l i s with
  |true=>
   rw[B]at G;rw[Os Z];generalize (ON l s i).map yP=xs,l.getD i dd=ti at *;clear z A hd E I;refine yJ (xV G W) ?_;rfl
  |false=>
   rw[B]at G;rw[Of zAp,z];generalize (ON l s i).map yP=xs at *;clear z A hd E I W;refine zQ G ?_;rfl
 .have L:=LA l s (ln l);rw[show zD yP (ON l s (ln l))= .sl false (((ON l s (ln l)).map yP).take (l.map yP).length) by rw[zAj (by simp[L])];rfl];generalize (ON l s (ln l)).map yP=xs at *;exact lc
def CX (l:List Tk) (k:Nat) (e:Int) (t:Tk):List Tk:=if e=0 then l.set k t else []
def S4 {P:Nat->Prop}:∀n,P n->∃m,m<=n/\P m/\∀k,k<m->¬P k:=by
 intro n
 induction n using Nat.strongRecOn with
 |_ n u=>
  grind
def R4 (l:List Tk) (u:ln l<=1000000) (h1:∀i,i<ln l->(l.getD i dd).used=true):zO 409 [zD yP l,.fn 410 []] [] (iA (-1)) []:=by
 have hl:=zA yP l;refine eM call409 λF hF=>?_
 refine WW ?_;refine zN (ln l) [] [] [0,1,7] [8,0,1,7] Z (λi T U=>⟨(8,iA i)::T,U⟩) (Lq ?_ ?_)
 .intro i hi;have z:=zJ yP l i hi;have c:=Ny (l.getD i dd);rw[h1 i hi]at c;generalize l.getD i dd=t at *;refine zQ c ?_;rfl
 .exact lc
def zr (l:List Tk) (p R c u f4:Int):Prop:=∃(k:Nat) (e:Int),(0<=e/\e<=20)/\(k=0\/k<ln l)/\(e=0->NU l=true/\0<=p/\p<ln l/\(l.getD k dd).used=false/\Zd R (l.getD p.toNat dd).rights=true/\(l.getD p.toNat dd).used=true)/\∀z:List Int,(ln z:Int)=8->
 zO 384 [zD yP l,iA p,iA R,iA c,iA u,zD yA z,iA f4] [] (.tup [zD yP (CX l k e ⟨true,z,p,R,c,Yc u f4⟩),iA k,iA e]) []/\
 zO 369 [zD yP l,iA p,iA R,iA c,iA u,zD yA z,iA f4] [] (.tup [zD yP (CX l k e ⟨true,z,p,R,c,Yc u f4⟩),iA k,iA e]) []
def bU {p R c u f4:Int} (e:Int) (h1:1<=e) (h2:e<=20) (h:∀z:List Int,(ln z:Int)=8->zO 384 [zD yP l,iA p,iA R,iA c,iA u,zD yA z,iA f4] [] (.tup [zD yP [],iA 0,iA e]) []/\zO 369 [zD yP l,iA p,iA R,iA c,iA u,zD yA z,iA f4] [] (.tup [zD yP [],iA 0,iA e]) []):zr l p R c u f4:=
 ⟨0,e,⟨zB,h2⟩,.inl Z,λA=>by omega,λz hs=>by
  have hd:CX l 0 e ⟨true,z,p,R,c,Yc u f4⟩=[]:=by unfold CX;rw[Of zB]
  rw[hd]
  exact h z hs⟩
theorem Jb (l:List Tk) (hb:GD l) (p R c A f4:Int):zr l p R c A f4:=by
 have hn:=hb.n;have a5:=zA yP l;have I:=PA l;have G:=OH l;rw[<-uh]at G
 cases hv:NU l with
 | false=>
  rw[hv]at I G
  exact bU 1 zB zB λz hs=>⟨by
   have B:=zA yA z;refine eM call384 λF hF=>?_
   exact lk I,by
   have B:=zA yA z;refine eM call369 λF hF=>?_
   exact lk G⟩
 |true=>
 rw[hv]at I G;have h8:(ln l:Int)=8:=by unfold NU at hv;rw[zAn,zAe]at hv;exact hv.1
 by_cases bb:0<=f4
 case neg=>
  exact bU 1 zB zB λz hs=>⟨by
   have B:=zA yA z;refine eM call384 λF hF=>?_
   exact lk I,by
   have B:=zA yA z;refine eM call369 λF hF=>?_
   exact lk G⟩
 by_cases bd:f4<=1073741824
 case neg=>
  exact bU 1 zB zB λz hs=>⟨by
   have B:=zA yA z;refine eM call384 λF hF=>?_
   exact lk I,by
   have B:=zA yA z;refine eM call369 λF hF=>?_
   exact lk G⟩
 have M:=Xd l p;by_cases ap:0<=p
 case neg=>
  rw[show gU l p=false by unfold gU;rw[zAc (λh=>ap h.1)];rfl]at M
  exact bU 12 zB zB λz hs=>⟨by
   have B:=zA yA z;refine eM call384 λF hF=>?_
   exact ld (xV I M),by
   have B:=zA yA z;refine eM call369 λF hF=>?_
   exact lk G⟩
 by_cases ar:p<ln l
 case neg=>
  rw[show gU l p=false by unfold gU;rw[zAc (λh=>ar h.2)];rfl]at M
  exact bU 12 zB zB λz hs=>⟨by
   have B:=zA yA z;refine eM call384 λF hF=>?_
   exact ld (xV I M),by
   have B:=zA yA z;refine eM call369 λF hF=>?_
   exact lk G⟩
 have hy:=yF yP l p ap ar;have a3:gU l p=(l.getD p.toNat dd).used:=by unfold gU;rw[zAd ⟨ap,ar⟩,zAo]
 rw[a3]at M;have c3:=ua R (l.getD p.toNat dd).rights;have r3:=GA R (l.getD p.toNat dd).rights;have c4:=yg (Yc A f4) (l.getD p.toNat dd).til;have r4:=qa (Yc A f4) (l.getD p.toNat dd).til
 have C:Yc A f4=if 0<A then f4+A else 0:=rfl
 generalize Yc A f4=un at *;clear a3;generalize a2:l.getD p.toNat dd=t at *;obtain⟨u,t1,t2,t3,t4,t5⟩:=t;rw[show∀u,yP ⟨u,t1,t2,t3,t4,t5⟩= .agg [bA u,zD yA t1,iA t2,iA t3,iA t4,iA t5]from λ_=>rfl]at hy;dsimp only at*
 cases u with
 | false=>
  exact bU 12 zB zB λz hs=>⟨by
   have B:=zA yA z;refine eM call384 λF hF=>?_
   exact ld (xV I M),by
   have B:=zA yA z;refine eM call369 λF hF=>?_
   exact lk G⟩
 |true=>
 cases hw:Zd R t3 with
 | false=>
  rw[hw]at c3 r3
  exact bU 8 zB zB λz hs=>⟨by
   have B:=zA yA z;refine eM call384 λF hF=>?_
   exact ld (kC I M c3),by
   have B:=zA yA z;refine eM call369 λF hF=>?_
   exact ld (xV G r3)⟩
 |true=>
 rw[hw]at c3 r3;by_cases a7:0<=c
 case neg=>
  exact bU 8 zB zB λz hs=>⟨by
   have B:=zA yA z;refine eM call384 λF hF=>?_
   exact ld (kC I M c3),by
   have B:=zA yA z;refine eM call369 λF hF=>?_
   exact ld (xV G r3)⟩
 by_cases a8:c<=t4
 case neg=>
  exact bU 8 zB zB λz hs=>⟨by
   have B:=zA yA z;refine eM call384 λF hF=>?_
   exact ld (kC I M c3),by
   have B:=zA yA z;refine eM call369 λF hF=>?_
   exact ld (xV G r3)⟩
 by_cases a9:0<=A
 case neg=>
  exact bU 8 zB zB λz hs=>⟨by
   have B:=zA yA z;refine eM call384 λF hF=>?_
   exact ld (kC I M c3),by
   have B:=zA yA z;refine eM call369 λF hF=>?_
   exact ld (xV G r3)⟩
 by_cases ba:A<=600
 case neg=>
  exact bU 8 zB zB λz hs=>⟨by
   have B:=zA yA z;refine eM call384 λF hF=>?_
   exact ld (kC I M c3),by
   have B:=zA yA z;refine eM call369 λF hF=>?_
   exact ld (xV G r3)⟩
 cases ax:Ir un t5 with
 | true=>
  rw[ax]at c4 r4;by_cases h0:0<A
  .rw[Os h0]at C;subst C
   exact bU 8 zB zB λz hs=>⟨by
    have B:=zA yA z;refine eM call384 λF hF=>?_
    exact ld (aB I M c3 c4),by
    have B:=zA yA z;refine eM call369 λF hF=>?_
    exact ld (kC G r3 r4)⟩
  .rw[Of h0]at C;subst C
   exact bU 8 zB zB λz hs=>⟨by
    have B:=zA yA z;refine eM call384 λF hF=>?_
    exact ld (aB I M c3 c4),by
    have B:=zA yA z;refine eM call369 λF hF=>?_
    exact ld (kC G r3 r4)⟩
 |false=>
 rw[ax]at c4 r4;have a6:Zd R (l.getD p.toNat dd).rights=true/\(l.getD p.toNat dd).used=true:=by rw[a2];exact⟨hw,rfl⟩
 clear ax hw a2;by_cases a1:∃k,k<ln l/\(l.getD k dd).used=false
 case neg=>
  have ag:∀i,i<ln l->(l.getD i dd).used=true:=λi hi=>by
   cases h:(l.getD i dd).used with
   |true=>rfl
   |false=>exact absurd ⟨i,hi,h⟩ a1
  have c5:=R4 l hn ag
  rcases(show(0<A/\Yc A f4=f4+A)\/(¬0<A/\Yc A f4=0) by unfold Yc;by_cases h:0<A;exact .inl ⟨h,Os h⟩;exact .inr ⟨h,Of h⟩)with⟨h0,az⟩|⟨h0,az⟩
  .rw[Os h0]at C;subst C
   exact bU 10 zB zB λz hs=>⟨by
    have B:=zA yA z;refine eM call384 λF hF=>?_
    exact ld (KO I M c3 c4 c5),by
    have B:=zA yA z;refine eM call369 λF hF=>?_
    refine yJ (kC G r3 r4) ?_;refine zN (ln l) [] [] [0,1,2,3,5,18,90,91] [92,0,1,2,3,5,18,90,91] Z (λi T U=>⟨(92,iA i)::T,U⟩) (Lq ?_ ?_)
    .intro i hi;have S:=zJ yP l i hi;have E:=ag i hi;generalize l.getD i dd=x at *;obtain⟨xu,V,W,Y,x4,x5⟩:=x;dsimp only at E;subst E;rw[show yP ⟨true,V,W,Y,x4,x5⟩= .agg [bA true,zD yA V,iA W,iA Y,iA x4,iA x5]from Z]at S;refine WW ?_;rfl
    .exact lc⟩
  .rw[Of h0]at C;subst C
   exact bU 10 zB zB λz hs=>⟨by
    have B:=zA yA z;refine eM call384 λF hF=>?_
    exact ld (KO I M c3 c4 c5),by
    have B:=zA yA z;refine eM call369 λF hF=>?_
    refine yJ (kC G r3 r4) ?_;refine zN (ln l) [] [] [0,1,2,3,5,18,90,91] [92,0,1,2,3,5,18,90,91] Z (λi T U=>⟨(92,iA i)::T,U⟩) (Lq ?_ ?_)
    .intro i hi;have S:=zJ yP l i hi;have E:=ag i hi;generalize l.getD i dd=x at *;obtain⟨xu,V,W,Y,x4,x5⟩:=x;dsimp only at E;subst E;rw[show yP ⟨true,V,W,Y,x4,x5⟩= .agg [bA true,zD yA V,iA W,iA Y,iA x4,iA x5]from Z]at S;refine WW ?_;rfl
    .exact lc⟩
 obtain⟨k0,a4,az⟩:=a1;obtain⟨k,_,⟨hk,L⟩,ac⟩:=S4 (P:=λk=>k<ln l/\(l.getD k dd).used=false) k0 ⟨a4,az⟩
 have O:∀i,i<k->(l.getD i dd).used=true:=λi hi=>by
  cases h:(l.getD i dd).used with
  |true=>rfl
  |false=>exact absurd ⟨zB,h⟩ (ac i hi)
 have c5:=U7 l hn k hk O L;have c6:=TP l hb;have r6:=IC l hb;refine⟨k,0,zB,.inr hk,λ_=>⟨hv,ap,ar,L,a6⟩,λz hs=>?_⟩;have hd:∀x:Tk,CX l k 0 x=l.set k x:=λx=>by unfold CX;rw[Os Z]
 rw[hd];have c7:=vJ z zB;have B:=zA yA z;have au:=zJ yP l k hk;have eS:=Jw l k ⟨true,z,p,R,c,Yc A f4⟩ (l.map yP).length a5;rw[eS];clear eS hd;rw[show Yc A f4=if 0<A then f4+A else 0 from Z];by_cases h0:0<A
 .rw[Os h0]at C⊢;subst C;refine⟨?_,?_⟩
  .clear G r3 r4 r6 O ac L;generalize l.getD k dd=tk at *;refine eM call384 λF hF=>?_
   exact ld (Ox I M c3 c4 c5 c6 c7)
  .clear I M c3 c4 c5 c6 c7;refine eM call369 λF hF=>?_
   refine yJ (kC G r3 r4) ?_;refine yW (ln l) [] [] [0,1,2,3,5,18,90,91] [92,0,1,2,3,5,18,90,91] Z (λi T U zs=>(i<=k)/\zs=⟨(92,iA i)::T,U⟩) (Lp ?_ ?_ ?_)
   .exact⟨zAr _,rfl⟩
   .rintro i st hi ⟨hik,rfl⟩;have S:=zJ yP l i hi;by_cases av:i=k
    .subst av;clear O ac au hy;generalize l.getD i dd=x at *;obtain⟨xu,V,W,Y,x4,x5⟩:=x;dsimp only at L;subst L;rw[show yP ⟨false,V,W,Y,x4,x5⟩= .agg [bA false,zD yA V,iA W,iA Y,iA x4,iA x5]from Z]at S;exact mx r6
    .have E:=O i zB;clear O ac au L hy;generalize l.getD i dd=x at *;obtain⟨xu,V,W,Y,x4,x5⟩:=x;dsimp only at E;subst E;rw[show yP ⟨true,V,W,Y,x4,x5⟩= .agg [bA true,zD yA V,iA W,iA Y,iA x4,iA x5]from Z]at S;refine WW ?_;exact⟨zB,rfl⟩
   .rintro st ⟨hik,rfl⟩;exfalso;omega
 .rw[Of h0]at C⊢;subst C;refine⟨?_,?_⟩
  .clear G r3 r4 r6 O ac L;generalize l.getD k dd=tk at *;refine eM call384 λF hF=>?_
   exact ld (Ox I M c3 c4 c5 c6 c7)
  .clear I M c3 c4 c5 c6 c7;refine eM call369 λF hF=>?_
   refine yJ (kC G r3 r4) ?_;refine yW (ln l) [] [] [0,1,2,3,5,18,90,91] [92,0,1,2,3,5,18,90,91] Z (λi T U zs=>(i<=k)/\zs=⟨(92,iA i)::T,U⟩) (Lp ?_ ?_ ?_)
   .exact⟨zAr _,rfl⟩
   .rintro i st hi ⟨hik,rfl⟩;have S:=zJ yP l i hi;by_cases av:i=k
    .subst av;clear O ac au hy;generalize l.getD i dd=x at *;obtain⟨xu,V,W,Y,x4,x5⟩:=x;dsimp only at L;subst L;rw[show yP ⟨false,V,W,Y,x4,x5⟩= .agg [bA false,zD yA V,iA W,iA Y,iA x4,iA x5]from Z]at S;exact mx r6
    .have E:=O i zB;clear O ac au L hy;generalize l.getD i dd=x at *;obtain⟨xu,V,W,Y,x4,x5⟩:=x;dsimp only at E;subst E;rw[show yP ⟨true,V,W,Y,x4,x5⟩= .agg [bA true,zD yA V,iA W,iA Y,iA x4,iA x5]from Z]at S;refine WW ?_;exact⟨zB,rfl⟩
   .rintro st ⟨hik,rfl⟩;exfalso;omega
def T7 (l:List Tk) (s:Int) (u:ln l=8):ON l s (ln l)=OI (λi=>WQ l 9 i s) l 8:=by grind [ON,OI,WQ,List.map_congr_left,Ke,my]
def UB:GD []:=⟨by simp,λt h=>by simp at h⟩
def Q4 (hb:GD l) (s:Int) (n:Nat):GD (ON l s n):=by
 refine⟨by rw[LA];exact hb.n,λt u=>?_⟩
 have z:∀j,(l.getD j dd).sec.length<=1000000:=λj=>by
  by_cases h:j<ln l
  .exact hb.s _ (by simp[oj,h])
  .rw[show l.getD j dd=dd by simp[oj,h]];exact zAr _
 unfold ON at u;rw[zB0]at u;obtain⟨j,_,rfl⟩:=u;split
 .unfold Ke;split
  .exact zAr _
  .exact z j
 .exact z j
def P4 {s:Int}:v8 l (ON l s (ln l)):=λh t z u=>by
 obtain⟨j,hj,rfl⟩:=zB0.1 z;rw[zA3]at hj;rw[Os hj]at u⊢;unfold Ke at u⊢;split at u
 .cases u
 .rw[Of ‹_›];exact h _ (zY l j hj) u
def Ib (l:List Tk) (hb:GD l) (s:Int):∃(o:List Tk) (e:Int),(0<=e/\e<=20)/\GD o/\(e=0->ln o=ln l/\v8 l o)/\zO 348 [zD yP l,iA s] [] (.tup [zD yP o,iA e]) []/\zO 370 [zD yP l,iA s] [] (.tup [zD yP o,iA e]) []:=by
 have M:=hb.n;have L:=zA yP l;have z:=PA l;have u:=OH l;rw[<-uh]at u
 cases hv:NU l with
 | false=>
  rw[hv]at z u;refine⟨[],1,zB,UB,λh=>absurd h yX,?_,?_⟩
  ·(refine eM call348 λF hF=>?_)
   exact lk z
  ·(refine eM call370 λF hF=>?_)
   exact lk u
 |true=>
 rw[hv]at z u;have A:ln l=8:=by unfold NU at hv;rw[zAn,zAe]at hv;omega
 by_cases h1:1<=s
 case neg=>
  refine⟨[],8,zB,UB,λh=>absurd h yX,?_,?_⟩
  ·(refine eM call348 λF hF=>?_)
   exact lk z
  ·(refine eM call370 λF hF=>?_)
   exact lk u
 by_cases h2:s<8
 case neg=>
  refine⟨[],8,zB,UB,λh=>absurd h yX,?_,?_⟩
  ·(refine eM call348 λF hF=>?_)
   exact lk z
  ·(refine eM call370 λF hF=>?_)
   exact lk u
 have C:=yF yP l s zB zB
 cases B:(l.getD s.toNat dd).used with
 | false=>
  rw[show yP (l.getD s.toNat dd)=cU false (l.getD s.toNat dd) by unfold yP cU;rw[B]]at C;unfold cU at C;generalize l.getD s.toNat dd=t at *;refine⟨[],12,zB,UB,λh=>absurd h yX,?_,?_⟩
  ·(refine eM call348 λF hF=>?_)
   exact lk z
  ·(refine eM call370 λF hF=>?_)
   exact lk u
 |true=>
  have I:=rj l hb hv s ⟨h1,h2⟩ A B;have E:=yh l s A;rw[A]at E;have G:=xh l hb (λi=>WQ l 9 i s) A;rw[<-T7 l s A]at G;rw[show yP (l.getD s.toNat dd)=cU true (l.getD s.toNat dd) by unfold yP cU;rw[B]]at C;unfold cU at C;refine⟨ON l s (ln l),0,zB,Q4 hb s _,λ_=>⟨LA l s _,P4⟩,I,?_⟩;clear I B;generalize ON l s (ln l)=O,fA (λi=>WQ l 9 i s) 8=b,l.getD s.toNat dd=t at *;refine eM call370 λF hF=>?_
  exact ld (kC u E G)
def ST (r:Rg):wB:= .box [iA r.num,zD yA r.ag.sec,iA r.ag.rights,iA r.ag.cls,zD iA r.ag.lim,iA r.ag.req,iA r.ag.ses,iA r.ag.rate,iA r.ag.burst,zD yP r.tk,zD vE r.vh,iA r.bk.level,iA r.bk.rate,iA r.bk.burst]
def My (r:Rg) (l:List Tk):Rg:=⟨r.num,r.ag,l,r.vh,r.bk⟩
def Ly (m:Ms) (a:Int) (u:m.args=[a]):zO 349 [yC m] [] (yC ⟨14,[],[m.kind,a],[]⟩) []:=by
 obtain⟨k,t,A,d⟩:=m;dsimp only at u⊢;subst u;have z:([a].map iA).length=1:=rfl;refine eM call349 λF hF=>?_
 exact lp
def O4 (h:NU l=true):GD l/\l.length=8:=by
 rw[uh]at h;have T:=(O3 l).1 h;refine⟨⟨by have:=T.n;omega,λt A=>?_⟩,T.n⟩;obtain⟨i,hi,rfl⟩:=zCw A;have u:i<8:=by have:=T.n;omega
 have e:l.getD i dd=l[i]:=by simp[oj,hi]
 cases z:(l.getD i dd).used with
 |false=>
  have:=T.f i u z
  grind [NU,HF]
 |true=>
  have:=(T.s i u z).1
  grind [NU,Dr,Sb]
def N4 (hb:GD l) (k:Nat) (e:Int) (t:Tk) (u:ln t.sec<=1000000):GD (CX l k e t):=by
 unfold CX;split
 .refine⟨by rw[zBp];exact hb.n,λx hx=>?_⟩
  rcases zDv hx with h|rfl
  .exact hb.s x h
  .exact u
 .exact UB
structure GvB (r:Rg):Prop where
 num:0<=r.num/\r.num<4
 b:EM r
 tv:NU r.tk=true
 n8:r.tk.length=8
 lim:(r.ag.lim.length:Int)=4
 cls:0<=r.ag.cls/\r.ag.cls<=3
 vl:r.vh.length<=8
def yr {r:Rg} (h:sp r=true):GvB r:=by
 unfold sp at h;simp only[zAn,zAe]at h;obtain⟨h1,h2,z,B,O,R⟩:=h;obtain⟨C,E⟩:=O4 z;have hv:=(zy.1 B).1;unfold Ei at h2;simp only[zAn,zAe]at h2;obtain⟨⟨G,A⟩,I,L,u,M⟩:=h2;unfold uQ at u;rw[zAe]at u;exact⟨h1,⟨C,zB,zB,zB⟩,z,E,A,u,hv⟩
def X9:Rg:=⟨0,⟨[],0,0,[],0,0,0,0⟩,[],[],⟨0,0,0⟩⟩
def LB:Ms:=⟨0,[],[],[]⟩
def xr (e:Int):AV:= .tup [qD X9,yC LB,bA false,iA e]
def S7:EM X9:=⟨UB,zAr _,zAr _,zAr _⟩
def fL (e:Int):xr e= .tup [.agg [iA 0,.sl false [],iA 0,iA 0,.sl false [],iA 0,iA 0,iA 0,iA 0,.sl false [],.sl false [],iA 0,iA 0,iA 0],.agg [iA 0,.sl false [],.sl false [],.sl false []],bA false,iA e]:=rfl
def SU (r:Rg) (m:Ms) (s f4:Int) (u:List Int) (B b C:Bool) (z:zO 345 [qD r] [] (bA B) []) (A:zO 127 [yC m] [] (bA b) []) (E:zO 346 [zD yP r.tk,iA s] [] (bA C) []) (h:B=false\/b=false\/C=false\/(¬(ln u:Int)=0/\¬(ln u:Int)=8)) (I:ln u<=1000):
  zO 306 [qD r,yC m,iA s,iA f4,zD yA u] [] (xr 1) []:=by
 rw[fL];have G:=zA yA u;cases B
 ·(refine eM call306 λF hF=>?_)
  exact lk z
 cases b
 ·(refine eM call306 λF hF=>?_)
  exact ld (xV z A)
 cases C
 ·(refine eM call306 λF hF=>?_)
  exact ld (kC z A E)
 .rcases h with h|h|h|⟨h1,h2⟩
  .cases h
  .cases h
  .cases h
  ·(refine eM call306 λF hF=>?_)
   exact ld (kC z A E)
def wr (r:Rg) (m:Ms) (s f4:Int) (z:List Int) (u:zO 367 [qD r] [] (bA false) []):
  zO 329 [qD r,yC m,iA s,iA f4,zD yA z] [] (xr 1) []:=by
 rw[fL];by_cases h2:m.kind=2
 ·(refine eM call329 λF hF=>?_)
  exact lk u
 by_cases A:m.kind=3
 ·(refine eM call329 λF hF=>?_)
  exact lk u
 by_cases B:m.kind=4
 ·(refine eM call329 λF hF=>?_)
  exact lk u
 by_cases C:m.kind=5
 all_goals
  (refine eM call329 λF hF=>?_)
  exact lk u
def vr (r:Rg) (m:Ms) (s f4:Int) (u:List Int) (z:zO 367 [qD r] [] (bA true) []) (h2:¬m.kind=2) (A:¬m.kind=3) (B:¬m.kind=4) (C:¬m.kind=5):
  zO 329 [qD r,yC m,iA s,iA f4,zD yA u] [] (xr 1) []:=by
 rw[fL];refine eM call329 λF hF=>?_
 exact lk z
def IJ (r:Rg) (m:Ms) (s f4:Int) (u:List Int) (Y:ln r.tk=8) (b:Bool) (z:zO 367 [qD r] [] (bA true) []) (A:zO 205 [yC m] [] (bA b) []) (hk:m.kind=2\/m.kind=3\/m.kind=4\/m.kind=5)
  (h:b=false\/gU r.tk s=false\/(¬(ln u:Int)=0/\¬(ln u:Int)=8)) (U:ln u<=1000):zO 329 [qD r,yC m,iA s,iA f4,zD yA u] [] (xr 1) []:=by
 rw[fL];have R:=zA yA u;have S:=zA yP r.tk;cases b
 .clear h
  rcases hk with hk|hk|hk|hk
  all_goals
   refine eM call329 λF hF=>?_
   exact ld (xV z A)
 by_cases C:0<=s
 case neg=>
  clear h
  rcases hk with hk|hk|hk|hk
  all_goals
   refine eM call329 λF hF=>?_
   exact ld (xV z A)
 by_cases W:s<8
 case neg=>
  clear h
  rcases hk with hk|hk|hk|hk
  all_goals
   refine eM call329 λF hF=>?_
   exact ld (xV z A)
 have V:=yF yP r.tk s C zB;have E:gU r.tk s=(r.tk.getD s.toNat dd).used:=by unfold gU;rw[zAd ⟨C,zB⟩,zAo]
 rw[E]at h;clear E;generalize r.tk.getD s.toNat dd=x at *;obtain⟨B,G,I,L,M,O⟩:=x;dsimp only at h;rw[show yP ⟨B,G,I,L,M,O⟩= .agg [bA B,zD yA G,iA I,iA L,iA M,iA O]from Z]at V;cases B
 .clear h
  rcases hk with hk|hk|hk|hk
  all_goals
   refine eM call329 λF hF=>?_
   exact ld (xV z A)
 .rcases h with h|h|⟨g1,g2⟩
  .cases h
  .cases h
  .rcases hk with hk|hk|hk|hk
   all_goals
    refine eM call329 λF hF=>?_
    exact ld (xV z A)
def IK (k a:Int):zO 368 [iA k,iA a] [] (yC ⟨14,[],[k,a],[]⟩) []:=by
 refine eM call368 λF hF=>?_
 exact lp
def R7 (r:Rg) (l:List Vh):Rg:=⟨r.num,r.ag,r.tk,l,r.bk⟩
def E9 (r:Rg) (m:Ms) (z:List Int) (A:Rg) (p:Ms) (u:Bool) (e:Int):Prop:=
 (e≠0->u=false/\0<=e/\e<=100)/\(e=0->(∃o,ln o=8/\v8 r.tk o/\A=My r o/\((u=false/\p=⟨14,[],[3,m.args.getD 0 0],[]⟩/\m.kind=3)\/(u=true/\z.length=8/\m.kind=2/\∃k:Nat,k<8/\p=⟨16,[],[(k:Int)],r.num::(k:Int)::z⟩)))\/
  (∃o,ln o<=8/\A=R7 r o/\u=false/\(m.kind=4\/m.kind=5)/\p=⟨14,[],[m.kind,m.args.getD 0 0],[]⟩))
def VC (r:Rg) (m:Ms) (s f4:Int) (z:List Int):Prop:=∃(A:Rg) (p:Ms) (u:Bool) (e:Int),EM A/\M2 p/\E9 r m z A p u e/\
 zO 306 [qD r,yC m,iA s,iA f4,zD yA z] [] (.tup [qD A,yC p,bA u,iA e]) []/\
 zO 329 [qD r,yC m,iA s,iA f4,zD yA z] [] (.tup [qD A,yC p,bA u,iA e]) []
def Q7:M2 LB:=⟨zAr _,zAr _,zAr _⟩
theorem VC.bad {r:Rg} {m:Ms} {s f4:Int} {u:List Int} (e:Int) (z:e≠0) (h1:zO 306 [qD r,yC m,iA s,iA f4,zD yA u] [] (xr e) []) (h2:zO 329 [qD r,yC m,iA s,iA f4,zD yA u] [] (xr e) []) (hb:0<=e/\e<=100:=by omega):VC r m s f4 u:=
 ⟨X9,LB,false,e,S7,Q7,⟨λ_=>⟨rfl,hb⟩,λh=>absurd h z⟩,h1,h2⟩
theorem do3 (r:Rg) (A:sp r=true) (u:List Int) (a s f4:Int) (z:List Int) (B:gU r.tk s=true) (hs:(ln z:Int)=0\/(ln z:Int)=8)
  (m1:zO 127 [yC ⟨3,u,[a],[]⟩] [] (bA true) []) (m2:zO 205 [yC ⟨3,u,[a],[]⟩] [] (bA true) []):VC r ⟨3,u,[a],[]⟩ s f4 z:=by
 have H:=yr A;have G:=WK r UV;have R:=ZM r UV;rw[A]at G R;have I:=QY r.tk s;rw[B]at I;have U:=bJ r H.b;have Y:=dV r H.b;have L:=Ly ⟨3,u,[a],[]⟩ a Z;have S:=IK 3 a;rw[show yC ⟨14,[],[(⟨3,u,[a],[]⟩:Ms).kind,a],[]⟩= .agg [iA 14,.sl false [],.sl false [iA 3,iA a],.sl false []]from Z]at L;rw[show yC ⟨14,[],[3,a],[]⟩= .agg [iA 14,.sl false [],.sl false [iA 3,iA a],.sl false []]from Z]at S;obtain⟨o,e,_,ho,E,V,k5⟩:=Ib r.tk H.b.tk a;have ag:=zA yA z;have ap:=zA yP r.tk;have ac:([a].map iA).length=1:=rfl
 have C:(r.tk.getD s.toNat dd).used=true/\0<=s/\s<8:=by
  unfold gU at B;rw[zAn,zAe]at B;exact⟨B.2,B.1.1,by have:=H.n8;omega⟩
 have O:=H.n8;have hy:=yF yP r.tk s C.2.1 zB;have M:EM (My r o):=⟨ho,H.b.s,H.b.l,H.b.v⟩;obtain⟨C,ar,au⟩:=C;clear B H A;generalize r.tk.getD s.toNat dd=x at *;obtain⟨xu,x1,x2,x3,x4,x5⟩:=x;dsimp only at C;subst C;rw[show yP ⟨true,x1,x2,x3,x4,x5⟩= .agg [bA true,zD yA x1,iA x2,iA x3,iA x4,iA x5]from Z]at hy;by_cases W:e=0
 .subst W;refine⟨My r o,⟨14,[],[3,a],[]⟩,false,0,M,⟨zAr _,by simp,zAr _⟩,⟨λh=>absurd Z h,λ_=> .inl ⟨o,by rw[(E Z).1,O],(E Z).2,rfl,.inl ⟨rfl,rfl,rfl⟩⟩⟩,?_,?_⟩
  .rw[show yC ⟨14,[],[3,a],[]⟩= .agg [iA 14,.sl false [],.sl false [iA 3,iA a],.sl false []]from Z]
   rcases hs with hs|hs
   all_goals
    refine eM call306 λF hF=>?_
    exact ld (Ld G m1 I U V L)
  .rw[show yC ⟨14,[],[3,a],[]⟩= .agg [iA 14,.sl false [],.sl false [iA 3,iA a],.sl false []]from Z]
   rcases hs with hs|hs
   all_goals
    refine eM call329 λF hF=>?_
    exact ld (KO R m2 Y S k5)
 .refine .bad e W ?_ ?_
  .rw[fL]
   rcases hs with hs|hs
   all_goals
    refine eM call306 λF hF=>?_
    exact ld (Ld G m1 I U V L)
  .rw[fL]
   rcases hs with hs|hs
   all_goals
    refine eM call329 λF hF=>?_
    exact ld (KO R m2 Y S k5)
theorem do5 (r:Rg) (A:sp r=true) (u:List Int) (a s f4:Int) (z:List Int) (B:gU r.tk s=true) (hs:(ln z:Int)=0\/(ln z:Int)=8)
  (m1:zO 127 [yC ⟨5,u,[a],[]⟩] [] (bA true) []) (m2:zO 205 [yC ⟨5,u,[a],[]⟩] [] (bA true) []):VC r ⟨5,u,[a],[]⟩ s f4 z:=by
 have H:=yr A;have E:=WK r UV;have O:=ZM r UV;rw[A]at E O;have G:=QY r.tk s;rw[B]at G;have S:=bJ r H.b;have W:=dV r H.b;have I:=Ly ⟨5,u,[a],[]⟩ a Z;have R:=IK 5 a;rw[show yC ⟨14,[],[(⟨5,u,[a],[]⟩:Ms).kind,a],[]⟩= .agg [iA 14,.sl false [],.sl false [iA 5,iA a],.sl false []]from Z]at I;rw[show yC ⟨14,[],[5,a],[]⟩= .agg [iA 14,.sl false [],.sl false [iA 5,iA a],.sl false []]from Z]at R;obtain⟨o,e,⟨ac,_⟩,ho,U,Y⟩:=tb r.vh UV a;have ap:=zA yA z;have ar:=zA yP r.tk;have ag:([a].map iA).length=1:=rfl
 have C:(r.tk.getD s.toNat dd).used=true/\0<=s/\s<8:=by
  unfold gU at B;rw[zAn,zAe]at B;exact⟨B.2,B.1.1,by have:=H.n8;omega⟩
 have au:=H.n8;have hy:=yF yP r.tk s C.2.1 zB;have M:ln o<=8:=by have:=H.vl;omega
 have L:EM (R7 r o):=⟨H.b.tk,H.b.s,H.b.l,by have:=H.vl;show (ln o)<=_;omega⟩;obtain⟨C,av,ax⟩:=C;clear B H A;generalize r.tk.getD s.toNat dd=x at *;obtain⟨xu,x1,x2,x3,x4,x5⟩:=x;dsimp only at C;subst C;rw[show yP ⟨true,x1,x2,x3,x4,x5⟩= .agg [bA true,zD yA x1,iA x2,iA x3,iA x4,iA x5]from Z]at hy;by_cases V:e=0
 .subst V;refine⟨R7 r o,⟨14,[],[5,a],[]⟩,false,0,L,⟨zAr _,by simp,zAr _⟩,⟨λh=>absurd Z h,λ_=> .inr ⟨o,M,rfl,rfl,.inr Z,rfl⟩⟩,?_,?_⟩
  .rw[show yC ⟨14,[],[5,a],[]⟩= .agg [iA 14,.sl false [],.sl false [iA 5,iA a],.sl false []]from Z]
   rcases hs with hs|hs
   all_goals
    refine eM call306 λF hF=>?_
    exact ld (Ld E m1 G S U I)
  .rw[show yC ⟨14,[],[5,a],[]⟩= .agg [iA 14,.sl false [],.sl false [iA 5,iA a],.sl false []]from Z]
   rcases hs with hs|hs
   all_goals
    refine eM call329 λF hF=>?_
    exact ld (KO O m2 W R Y)
 .refine .bad e V ?_ ?_
  .rw[fL]
   rcases hs with hs|hs
   all_goals
    refine eM call306 λF hF=>?_
    exact ld (Ld E m1 G S U I)
  .rw[fL]
   rcases hs with hs|hs
   all_goals
    refine eM call329 λF hF=>?_
    exact ld (KO O m2 W R Y)
def Hb (r:Rg) (a b s:Int) (S:ln r.tk=8) (I:0<=s) (R:s<8) (o:List Vh) (e:Int) (c:zO 387 [zD vE r.vh,vX (vy r.ag (min r.ag.cls (r.tk.getD s.toNat dd).cls)),vE ⟨a,b⟩] [] (.tup [zD vE o,iA e]) []):
  zO 350 [qD r,zD iA [a,b],iA s] [] (.tup [zD vE o,iA e]) []:=by
 have M:=zA yP r.tk;have L:([a,b].map iA).length=2:=rfl;have O:=yF yP r.tk s I zB;generalize r.tk.getD s.toNat dd=x at *;obtain⟨G,A,B,C,u,E⟩:=x;rw[show yP ⟨G,A,B,C,u,E⟩= .agg [bA G,zD yA A,iA B,iA C,iA u,iA E]from Z]at O;rw[show(⟨G,A,B,C,u,E⟩:Tk).cls=u from Z]at c;have z:vX (vy r.ag (min r.ag.cls u))= .agg [zD yA r.ag.sec,iA r.ag.rights,iA (min r.ag.cls u),zD iA r.ag.lim,iA r.ag.req,iA r.ag.ses,iA r.ag.rate,iA r.ag.burst]:=rfl;rw[z]at c;rw[show vE ⟨a,b⟩= .agg [iA a,iA b]from Z]at c;refine eM call350 λF hF=>?_
 exact lk c
theorem do4 (r:Rg) (A:sp r=true) (z:List Int) (a b s f4:Int) (u:List Int) (B:gU r.tk s=true) (hs:(ln u:Int)=0\/(ln u:Int)=8)
  (m1:zO 127 [yC ⟨4,z,[a,b],[]⟩] [] (bA true) []) (m2:zO 205 [yC ⟨4,z,[a,b],[]⟩] [] (bA true) []):VC r ⟨4,z,[a,b],[]⟩ s f4 u:=by
 have H:=yr A;have G:=WK r UV;have W:=ZM r UV;rw[A]at G W;have I:=QY r.tk s;rw[B]at I;have c4:=bJ r H.b;have k4:=dV r H.b
 have L:zO 349 [yC ⟨4,z,[a,b],[]⟩] [] (yC ⟨14,[],[4,a],[]⟩) []:=by
  have O:([a,b].map iA).length=2:=rfl;refine eM call349 λF hF=>?_
  exact lp
 have k6:=IK 4 a;rw[show yC ⟨14,[],[4,a],[]⟩= .agg [iA 14,.sl false [],.sl false [iA 4,iA a],.sl false []]from Z]at L k6;obtain⟨o,e,⟨ac,_⟩,⟨ho,au⟩,cv,Y⟩:=HC r.vh UV r.ag (r.tk.getD s.toNat dd).cls H.lim H.cls.2 ⟨a,b⟩;have ap:=zA yA u;have ar:=zA yP r.tk;have O:([a,b].map iA).length=2:=rfl
 have C:(r.tk.getD s.toNat dd).used=true/\0<=s/\s<8:=by
  unfold gU at B;rw[zAn,zAe]at B;exact⟨B.2,B.1.1,by have:=H.n8;omega⟩
 have R:=H.n8;have hy:=yF yP r.tk s C.2.1 zB;have S:ln o<=8:=by have:=H.vl;omega
 have M:EM (R7 r o):=⟨H.b.tk,H.b.s,H.b.l,by have:=H.vl;show (ln o)<=_;omega⟩;obtain⟨C,U,V⟩:=C;have c5:=Hb r a b s R U V o e cv;clear B H A cv;generalize r.tk.getD s.toNat dd=x at *;obtain⟨xu,x1,x2,x3,E,x5⟩:=x;dsimp only at C;subst C;rw[show yP ⟨true,x1,x2,x3,E,x5⟩= .agg [bA true,zD yA x1,iA x2,iA x3,iA E,iA x5]from Z]at hy;rw[show(⟨true,x1,x2,x3,E,x5⟩:Tk).cls=E from Z,show vE ⟨a,b⟩= .agg [iA a,iA b]from Z,show vX r.ag= .agg [zD yA r.ag.sec,iA r.ag.rights,iA r.ag.cls,zD iA r.ag.lim,iA r.ag.req,iA r.ag.ses,iA r.ag.rate,iA r.ag.burst]from Z]at Y;by_cases he:e=0
 .subst he;refine⟨R7 r o,⟨14,[],[4,a],[]⟩,false,0,M,⟨zAr _,by simp,zAr _⟩,⟨λh=>absurd Z h,λ_=> .inr ⟨o,S,rfl,rfl,.inl Z,rfl⟩⟩,?_,?_⟩
  .rw[show yC ⟨14,[],[4,a],[]⟩= .agg [iA 14,.sl false [],.sl false [iA 4,iA a],.sl false []]from Z]
   rcases hs with hs|hs
   all_goals
    refine eM call306 λF hF=>?_
    exact ld (Ld G m1 I c4 c5 L)
  .rw[show yC ⟨14,[],[4,a],[]⟩= .agg [iA 14,.sl false [],.sl false [iA 4,iA a],.sl false []]from Z]
   rcases hs with hs|hs
   all_goals
    refine eM call329 λF hF=>?_
    exact ld (KO W m2 k4 k6 Y)
 .refine .bad e he ?_ ?_
  .rw[fL]
   rcases hs with hs|hs
   all_goals
    refine eM call306 λF hF=>?_
    exact ld (Ld G m1 I c4 c5 L)
  .rw[fL]
   rcases hs with hs|hs
   all_goals
    refine eM call329 λF hF=>?_
    exact ld (KO W m2 k4 k6 Y)
def sj:AV:= .agg [iA 0,.s (.slice none 0 0),.s (.slice none 0 0),.s (.slice none 0 0)]
def Je (r:Rg) (s R c u f4 e:Int) (E:¬e=0) (k:Nat) (z:List Int)
  (A:zO 384 [zD yP r.tk,iA s,iA R,iA c,iA u,zD yA (nm 8 0),iA f4] [] (.tup [.sl false [],iA k,iA e]) []):
  zO 347 [.ptr 14 0 0,zD iA [R,c,u],iA s,iA f4,zD yA z] [(14,ST r)] (.tup [sj,iA e]) [(14,ST r)]:=by
 have C:=zA yA z;have B:([R,c,u].map iA).length=3:=rfl;unfold ST sj;rw[show zD yA (nm 8 0)= .sl false (nm 8 (AV.s (.int .u8 0)))from Z]at A;refine eM call347 λF hF=>?_
 (repeat' (first|refine F7 ?_|apply yZ|apply xM|intro hc|(apply zG;first|refine SM ?_)|fail))
 refine jK (st':=⟨[(0,.ptr 14 0 0),(1,zD iA [R,c,u]),(2,iA s),(3,iA f4),(4,zD yA z),(10,.ptr 10 0 0),(11,iA 0),(12,.sl false (nm 8 (AV.s (.int .u8 0))))],[(14,.box [iA r.num,zD yA r.ag.sec,iA r.ag.rights,iA r.ag.cls,zD iA r.ag.lim,iA r.ag.req,iA r.ag.ses,iA r.ag.rate,iA r.ag.burst,zD yP r.tk,zD vE r.vh,iA r.bk.level,iA r.bk.rate,iA r.bk.burst]),(10,.box [iA 0,.s (.slice none 0 0),.s (.slice none 0 0),.s (.slice none 0 0)])]⟩) [14,10] [0,1,2,3,4,10,11,12] Z Z ?_;refine zQ A ?_;exact zP [14] Z Z Z Z
def Ie (r:Rg) (s R c u f4:Int) (k:Nat) (C:List Tk)
  (z:zO 384 [zD yP r.tk,iA s,iA R,iA c,iA u,zD yA (nm 8 0),iA f4] [] (.tup [zD yP C,iA k,iA 0]) []):
  zO 347 [.ptr 14 0 0,zD iA [R,c,u],iA s,iA f4,zD yA []] [(14,ST r)] (.tup [sj,iA 18]) [(14,ST r)]:=by
 have B:(([]:List Int).map yA).length=0:=rfl;have A:([R,c,u].map iA).length=3:=rfl;unfold ST sj;rw[show zD yA (nm 8 0)= .sl false (nm 8 (AV.s (.int .u8 0)))from Z]at z;refine eM call347 λF hF=>?_
 (repeat' (first|refine F7 ?_|apply yZ|apply xM|intro hc|(apply zG;first|refine SM ?_)|fail))
 refine jK (st':=⟨[(0,.ptr 14 0 0),(1,zD iA [R,c,u]),(2,iA s),(3,iA f4),(4,zD yA []),(10,.ptr 10 0 0),(11,iA 0),(12,.sl false (nm 8 (AV.s (.int .u8 0))))],[(14,.box [iA r.num,zD yA r.ag.sec,iA r.ag.rights,iA r.ag.cls,zD iA r.ag.lim,iA r.ag.req,iA r.ag.ses,iA r.ag.rate,iA r.ag.burst,zD yP r.tk,zD vE r.vh,iA r.bk.level,iA r.bk.rate,iA r.bk.burst]),(10,.box [iA 0,.s (.slice none 0 0),.s (.slice none 0 0),.s (.slice none 0 0)])]⟩) [14,10] [0,1,2,3,4,10,11,12] Z Z ?_;refine zQ z ?_;exact zP [14] Z Z Z Z
def Ge (r:Rg) (S:0<=r.num/\r.num<4) (s R c u f4:Int) (z:List Int) (hs:(ln z:Int)=8) (k:Nat) (I:k<8) (O B:List Tk)
  (A:zO 384 [zD yP r.tk,iA s,iA R,iA c,iA u,zD yA (nm 8 0),iA f4] [] (.tup [zD yP O,iA k,iA 0]) [])
  (E:zO 384 [zD yP r.tk,iA s,iA R,iA c,iA u,zD yA z,iA f4] [] (.tup [zD yP B,iA k,iA 0]) []):
  zO 347 [.ptr 14 0 0,zD iA [R,c,u],iA s,iA f4,zD yA z] [(14,ST r)] (.tup [.agg [iA 16,.s (.slice none 0 0),.sl false [iA k],zD yA (r.num::(k:Int)::z)],iA 0]) [(14,ST (My r B))]:=by
 have G:=Tp r.num k z zB zB zB zB zB;have M:=zA yA z;have L:([R,c,u].map iA).length=3:=rfl;unfold ST My;dsimp only;generalize r.num::(k:Int)::z=C at *;rw[show zD yA (nm 8 0)= .sl false (nm 8 (AV.s (.int .u8 0)))from Z]at A;refine eM call347 λF hF=>?_
 (repeat' (first|refine F7 ?_|apply yZ|apply xM|intro hc|(apply zG;first|refine SM ?_)|fail))
 refine jK (st':=⟨[(0,.ptr 14 0 0),(1,zD iA [R,c,u]),(2,iA s),(3,iA f4),(4,zD yA z),(10,.ptr 10 0 0),(11,iA 0),(12,.sl false (nm 8 (AV.s (.int .u8 0))))],[(14,.box [iA r.num,zD yA r.ag.sec,iA r.ag.rights,iA r.ag.cls,zD iA r.ag.lim,iA r.ag.req,iA r.ag.ses,iA r.ag.rate,iA r.ag.burst,zD yP r.tk,zD vE r.vh,iA r.bk.level,iA r.bk.rate,iA r.bk.burst]),(10,.box [iA 0,.s (.slice none 0 0),.s (.slice none 0 0),.s (.slice none 0 0)])]⟩) [14,10] [0,1,2,3,4,10,11,12] Z Z ?_;refine yJ (kC A E G) ?_;exact zP [14] Z Z Z Z
def Gb (r:Rg) (n8:ln r.tk=8) (z:List Int) (R c u s f4:Int) (L:0<=s) (M:s<8) (Y:List Int) (x2 x3 x4 x5:Int) (hy:(r.tk.map yP)[s.toNat]? =some (.agg [bA true,zD yA Y,iA x2,iA x3,iA x4,iA x5])) (k:Nat) (e f:Int) (B:(e=0/\f=18)\/(¬e=0/\f=e)) (V:List Tk)
  (O:zO 367 [qD r] [] (bA true) []) (W:zO 205 [yC ⟨2,z,[R,c,u],[]⟩] [] (bA true) []) (S:zO 143 [qD r] [] (qD r) [])
  (e1:zO 369 [zD yP r.tk,iA s,iA R,iA c,iA u,zD yA (nm 8 0),iA f4] [] (.tup [zD yP V,iA k,iA e]) []) (U:zO 84 [iA r.num,iA k,zD yA []] [] (zD yA (r.num::(k:Int)::[])) []):
  zO 329 [qD r,yC ⟨2,z,[R,c,u],[]⟩,iA s,iA f4,zD yA []] [] (xr f) []:=by
 rw[fL];have A:=IK 2 R;rw[show yC ⟨14,[],[2,R],[]⟩= .agg [iA 14,.sl false [],.sl false [iA 2,iA R],.sl false []]from Z]at A;have E:(([]:List Int).map yA).length=0:=rfl;have G:=zA yP r.tk;have C:([R,c,u].map iA).length=3:=rfl;have I:(nm 8 (AV.s (.int .u8 0))).length=8:=rfl;rw[show zD yA (nm 8 0)= .sl false (nm 8 (AV.s (.int .u8 0)))from Z]at e1;refine eM call329 λF hF=>?_
 (have gd:=O;have gn:=W;have gt:=S;(repeat' (first|refine F7 ?_|apply yZ|apply xM|intro hc|(apply zG;first|refine SM ?_)|fail))<;>clear gd gn gt)
 refine vQ Z ?_
 (have gd:=A;(repeat' (first|refine WS ?_|refine SG (I2 (λhc=>?_) λhc=>?_)|refine SG λhc=>?_|(apply zG;first|refine SM ?_)|(first|first|refine SX ?_|fail|apply xE)|fail))<;>clear gd)
 refine jK (st':=⟨[(2,iA s),(3,iA f4),(4,zD yA []),(5,.ptr 5 0 0),(6,.ptr 6 0 0),(10,.ptr 10 0 0),(11,.ptr 11 0 0),(12,bA false),(13,iA 0),(15,.ptr 15 0 0),(16,.ptr 16 0 0),(17,iA 0),(18,.sl false (nm 8 (AV.s (.int .u8 0))))],[(15,ST r),(16,.box [iA 14,.sl false [],.sl false [iA 2,iA R],.sl false []]),(10,.box [iA 0,.s (.slice none 0 0),iA 0,iA 0,.s (.slice none 0 0),iA 0,iA 0,iA 0,iA 0,.s (.slice none 0 0),.s (.slice none 0 0),iA 0,iA 0,iA 0]),(11,.box [iA 0,.s (.slice none 0 0),.s (.slice none 0 0),.s (.slice none 0 0)]),(5,ST r),(6,.box [iA 2,zD yA z,zD iA [R,c,u],zD yA []])]⟩) [15,16,10,11,5,6] [2,3,4,5,6,10,11,12,13,15,16,17,18] Z Z ?_;unfold ST
 rcases B with⟨rfl,rfl⟩|⟨he,rfl⟩
 all_goals
  exact ld (xV e1 U)
def Fb (r:Rg) (n8:ln r.tk=8) (A:List Int) (R c z s f4:Int) (u:List Int) (ac:(ln u:Int)=8) (W:0<=s) (Y:s<8) (x1:List Int) (x2 x3 x4 x5:Int) (hy:(r.tk.map yP)[s.toNat]? =some (.agg [bA true,zD yA x1,iA x2,iA x3,iA x4,iA x5])) (k:Nat) (e:Int) (L:List Tk)
  (E:zO 367 [qD r] [] (bA true) []) (M:zO 205 [yC ⟨2,A,[R,c,z],[]⟩] [] (bA true) []) (G:zO 143 [qD r] [] (qD r) [])
  (e1:zO 369 [zD yP r.tk,iA s,iA R,iA c,iA z,zD yA u,iA f4] [] (.tup [zD yP L,iA k,iA e]) []) (I:zO 84 [iA r.num,iA k,zD yA u] [] (zD yA (r.num::(k:Int)::u)) []):
  zO 329 [qD r,yC ⟨2,A,[R,c,z],[]⟩,iA s,iA f4,zD yA u] [] (if e=0 then .tup [qD (My r L),yC ⟨16,[],[(k:Int)],r.num::(k:Int)::u⟩,bA true,iA 0]else xr e) []:=by
 have C:=IK 2 R;rw[show yC ⟨14,[],[2,R],[]⟩= .agg [iA 14,.sl false [],.sl false [iA 2,iA R],.sl false []]from Z]at C;have U:=zA yA u;have V:=zA yP r.tk;have S:([R,c,z].map iA).length=3:=rfl;rw[show yC ⟨16,[],[(k:Int)],r.num::(k:Int)::u⟩= .agg [iA 16,.sl false [],.sl false [iA (k:Int)],zD yA (r.num::(k:Int)::u)]from Z];generalize r.num::(k:Int)::u=O at *;by_cases B:e=0
 .rw[Os B];subst B;refine eM call329 λF hF=>?_
  exact ld (Ld E M G C e1 I)
 .rw[Of B,fL];refine eM call329 λF hF=>?_
  exact ld (Ld E M G C e1 I)
def Iw:∀a b:_root_.Fin 64,(jZ a.val b.val==(a.val:Int))=true->(jZ b.val 16==(16:Int))=false->(jZ a.val 16==(16:Int))=false:=by decide +kernel
def O7 {a b:Int} (h:Zd a b=true) (k:Vj b 10=false):Vj a 10=false:=by
 unfold Zd ML at h;simp only[zAn,zAe]at h;obtain⟨⟨⟨a0,A⟩,u,z⟩,h⟩:=h;obtain⟨m,rfl⟩:=zB4 a0;obtain⟨n,rfl⟩:=zB4 u;have e:KJ 10=16:=by decide
 unfold Vj ML at k⊢;rw[e]at k⊢;rw[zAd ⟨u,z⟩,zAo]at k;rw[Iw ⟨m,zB⟩ ⟨n,zB⟩ h k,zCa]
theorem do2 (r:Rg) (U:sp r=true) (A:List Int) (R c u s f4:Int) (z:List Int) (O:gU r.tk s=true) (hs:(ln z:Int)=0\/(ln z:Int)=8)
  (m1:zO 127 [yC ⟨2,A,[R,c,u],[]⟩] [] (bA true) []) (m2:zO 205 [yC ⟨2,A,[R,c,u],[]⟩] [] (bA true) []):VC r ⟨2,A,[R,c,u],[]⟩ s f4 z:=by
 have H:=yr U;have c1:=WK r UV;have k1:=ZM r UV;rw[U]at c1 k1;have c3:=QY r.tk s;rw[O]at c3;have c4:=bJ r H.b;have k4:=dV r H.b;obtain⟨k,e,_,hk,ag,W⟩:=Jb r.tk H.b.tk s R c u f4;have C:=H.n8
 have ac:k<8:=by rcases hk with h|h<;>omega
 have av:e=0->∀y au,v8 r.tk (CX r.tk k e ⟨true,y,s,R,c,au⟩):=λG y au=>λh t V O=>by
  obtain⟨_,p0,p1,_,p2,p3⟩:=ag G;unfold CX at V;rw[Os G]at V
  rcases zDv V with V|rfl
  .exact h t V O
  .exact O7 p2 (h _ (zY r.tk s.toNat zB) p3)
 clear ag;have kb:=yq r.num k z zB H.num.1 (by have:=H.num;omega) zB zB;have ar:=H.num;have a1:=zA yA z;have a2:=zA yP r.tk;have az:([R,c,u].map iA).length=3:=rfl
 have hU:(r.tk.getD s.toNat dd).used=true/\0<=s/\s<8:=by
  unfold gU at O;rw[zAn,zAe]at O;exact⟨O.2,O.1.1,zB⟩
 have hy:=yF yP r.tk s hU.2.1 zB;have E:∀t:Tk,ln t.sec<=1000000->EM (My r (CX r.tk k e t)):=λt V=>⟨N4 H.b.tk k e t V,H.b.s,H.b.l,H.b.v⟩
 obtain⟨hU,I,L⟩:=hU;clear O H U hk;generalize r.tk.getD s.toNat dd=x at *;obtain⟨xu,Y,x2,x3,x4,x5⟩:=x;dsimp only at hU;subst hU;rw[show yP ⟨true,Y,x2,x3,x4,x5⟩= .agg [bA true,zD yA Y,iA x2,iA x3,iA x4,iA x5]from Z]at hy;obtain⟨d1,e1⟩:=W (nm 8 0) Z;by_cases G:e=0
 .subst G
  rcases hs with hs|hs
  ·
   have hs:=zBa (show (ln z)=0 by omega);subst hs;have B:=Gb r C A R c u s f4 I L Y x2 x3 x4 x5 hy k 0 18 (.inl ⟨rfl,rfl⟩) _ k1 m2 k4 e1 kb;refine .bad 18 yX ?_ B;clear B;generalize CX r.tk k 0 ⟨true,nm 8 0,s,R,c,Yc u f4⟩=l1 at *;have M:=Ie r s R c u f4 k l1 d1;unfold ST sj at M;clear W E;rw[fL];refine eM call306 λF hF=>?_
   exact ld (KO c1 m1 c3 c4 M)
  .obtain⟨d2,e2⟩:=W z hs;have B:=Fb r C A R c u s f4 z hs I L Y x2 x3 x4 x5 hy k 0 _ k1 m2 k4 e2 kb;rw[Os Z]at B;refine⟨My r (CX r.tk k 0 ⟨true,z,s,R,c,Yc u f4⟩),⟨16,[],[(k:Int)],r.num::(k:Int)::z⟩,true,0,E _ (by show (ln z)<=_;omega),⟨zAr _,by simp,by simp;omega⟩,⟨λh=>absurd Z h,λ_=> .inl ⟨_,by rw[CX,Os Z,zBp];exact C,av Z _ _,rfl,.inr ⟨rfl,zB,rfl,k,ac,rfl⟩⟩⟩,?_,B⟩;clear B;generalize CX r.tk k 0 ⟨true,nm 8 0,s,R,c,Yc u f4⟩=l1 at *;generalize CX r.tk k 0 ⟨true,z,s,R,c,Yc u f4⟩=l2 at *;have M:=Ge r ar s R c u f4 z hs k ac l1 l2 d1 d2;unfold ST at M;clear W E;rw[show yC ⟨16,[],[(k:Int)],r.num::(k:Int)::z⟩= .agg [iA 16,.sl false [],.sl false [iA (k:Int)],zD yA (r.num::(k:Int)::z)]from Z];generalize r.num::(k:Int)::z=ax at *;refine eM call306 λF hF=>?_
   exact ld (KO c1 m1 c3 c4 M)
 .have ap:∀t,CX r.tk k e t=[]:=λt=>by unfold CX;rw[Of G]
  have S:=d1;rw[ap]at S;have M:=Je r s R c u f4 e G k z S;unfold ST sj at M
  have B:zO 329 [qD r,yC ⟨2,A,[R,c,u],[]⟩,iA s,iA f4,zD yA z] [] (xr e) []:=by
   rcases hs with hs|hs
   .have hs:=zBa (show (ln z)=0 by omega);subst hs;exact Gb r C A R c u s f4 I L Y x2 x3 x4 x5 hy k e e (.inr ⟨G,rfl⟩) _ k1 m2 k4 e1 kb
   .obtain⟨d2,e2⟩:=W z hs;have B:=Fb r C A R c u s f4 z hs I L Y x2 x3 x4 x5 hy k e _ k1 m2 k4 e2 kb;rw[Of G]at B;exact B
  refine .bad e G ?_ B;clear B W E ap e1 d1 S;rw[fL]
  rcases hs with hs|hs
  all_goals
   refine eM call306 λF hF=>?_
   exact ld (KO c1 m1 c3 c4 M)
