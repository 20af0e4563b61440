/- Part 19. -/
import Derived.Test.YteajjdidebfcjaaGreatR18
namespace Go.Proofs.YteajjdidebfcjaaGreat
namespace Av
open Tryz
set_option linter.all false
set_option maxRecDepth 4000
set_option maxHeartbeats 4000000
def zWp (N:Nat) (h1:1<=N) (h2:N<=1000000):zN 299 [.s (.slice none 0 0),iA N] [] (.ref 1001 0 0) [(1001,.arr 2 [] true)]:=by
 have hnx:(N:Int)-(0-0)=(N:Int):=by omega
 have hn3:(N:Int)-(0-((0:Nat):Int))=(N:Int):=by omega
 refine eM call299 λF hF=>?_
 (repeat' (first|refine WS ?_|refine SG (I2 (λhc=>?_) λhc=>?_)|refine SG λhc=>?_|(refine zE ?_;first|(refine wG (OI tok Z Z Z) Z ?_)|(refine fB ?_;refine wG (zBe tok Z Z Z Z Z) Z ?_)|(refine zQw tok Z Z Z Z Z Z Z Z Z Z Z Z Z Z (by first|exact hnx|exact hn3) h1 zB Z Z Z ?_)|(refine fB ?_;refine zQv tok Z Z Z Z Z Z Z Z ?_))|(first|refine zFk 0 22 1001 Z Z Z ?_|first|refine SR ?_|refine SK (I2 (λhc=>?_) λhc=>?_)|refine SK λhc=>?_|fail)|fail))
 exact zL [1001] Z Z Z Z
def zRt:zN 299 [.s (.slice none 0 0),iA 0] [] (.s (.slice none 0 0)) []:=by
 refine eM call299 λF hF=>?_
 (repeat' (first|refine uL ?_|((first|apply xM|apply wA)<;>intro hc)|(refine zE ?_;first|(refine wG (OI tok Z Z Z) Z ?_))|fail))
 exact zL [] Z Z Z Z
theorem zMy (a b:List Vh) (ha:a.length<=1000) (hb:b.length<=1000):zN 270 [.sl false [zD vZ a,zD vZ b]] [] (zD vZ (a++b)) []:=by
 have hla:=zA vZ a;have hlb:=zA vZ b;rw[show zD vZ (a++b)= .sl false (a.map vZ++b.map vZ) by unfold zD;rw[yAi]];have hsa:zD vZ a= .sl false (a.map vZ):=rfl;have hsb:zD vZ b= .sl false (b.map vZ):=rfl;rw[hsa,hsb];have hhA:∀y,(a.map vZ)[0]? =some y->y.cells.length=2:=xO _ _ (λ_=>rfl);have hhB:∀y,(b.map vZ)[0]? =some y->y.cells.length=2:=xO _ _ (λ_=>rfl);generalize a.map vZ=A at *;generalize b.map vZ=B at *;clear hsa hsb;have hyA:([AV.sl false A,.sl false B]:List AV)[(0:Int).toNat]? =some (.sl false A):=rfl;have hyB:([AV.sl false A,.sl false B]:List AV)[(0+1:Int).toNat]? =some (.sl false B):=rfl;have hl2:([AV.sl false A,.sl false B]:List AV).length=2:=rfl;generalize [AV.sl false A,.sl false B]=X at *;refine eM call270 λF hF=>?_
 refine WW ?_;refine ZH [] [3,11,0,9,10] ⟨[(3,iA 0),(11,iA 0),(0,.sl false X),(9,.sl false X),(10,iA X.length)],[]⟩ ⟨[(3,iA (0+(A.length:Int))),(11,iA (0+1)),(0,.sl false X),(9,.sl false X),(10,iA X.length)],[]⟩ ⟨[(3,iA (0+(A.length:Int)+(B.length:Int))),(11,iA (0+1+1)),(0,.sl false X),(9,.sl false X),(10,iA X.length)],[]⟩ rfl Z ?_ ?_ ?_
 ·(refine WW ?_)
  rfl
 ·(refine WW ?_)
  rfl
 by_cases hN:A.length+B.length=0
 ·have c0:=zRt;rw[show iA 0=iA (0+(A.length:Int)+(B.length:Int)) by rw[show(0:Int)+(A.length:Int)+(B.length:Int)=0 by omega]]at c0
  (repeat' (first|refine uL ?_|((first|apply xM|apply wA)<;>intro hc)|(refine zE ?_;refine xT ?_;(refine vS 299 ?_;first|refine wG (kD c0 Z Z Z Z Z) Z ?_|refine uS (kD c0 Z Z Z Z Z) Z Z Z ?_|refine ZU (kD c0 Z Z Z Z Z) Z Z Z ?_))|(refine zE ?_;first|refine SM ?_)|fail))
  refine yZ 6 1001 2 Z Z Z ?_;refine ZH [1001] [6,27,25,26] ⟨[(6,.ref 1001 0 0),(27,iA 0),(25,.sl false X),(26,iA X.length)],[(1001,.arr 2 [] true)]⟩ ⟨[(6,.ref 1001 0 A.length),(27,iA (0+1)),(25,.sl false X),(26,iA X.length)],[(1001,.arr 2 A false)]⟩ ⟨[(6,.ref 1001 0 (A++B).length),(27,iA (0+1+1)),(25,.sl false X),(26,iA X.length)],[(1001,.arr 2 (A++B) true)]⟩ rfl Z ?_ ?_ ?_
  ·(repeat' (first|refine uL ?_|((first|apply xM|apply wA)<;>intro hc)|(refine zE ?_;first|(refine xC ?_;first|refine wF tok Z Z Z Z Z Z Z hhA Z Z Z zB Z ?_|refine aE tok Z Z Z Z Z Z Z Z Z Z Z hhB zB Z ?_))|fail))
   rfl
  ·(repeat' (first|refine uL ?_|((first|apply xM|apply wA)<;>intro hc)|(refine zE ?_;first|(refine xC ?_;first|refine wF tok Z Z Z Z Z Z Z hhA Z Z Z zB Z ?_|refine aE tok Z Z Z Z Z Z Z Z Z Z Z hhB zB Z ?_))|fail))
   rfl
  ·(refine WW ?_)
   exact zK [] Z Z (yA6 (AV.sl false) (by rw[yA9,yAf])) Z
 ·have c0:=zWp (A.length+B.length) zB zB;rw[show((A.length+B.length:Nat):Int)=0+(A.length:Int)+(B.length:Int) by omega]at c0
  (repeat' (first|refine uL ?_|((first|apply xM|apply wA)<;>intro hc)|(refine zE ?_;refine xT ?_;(refine vS 299 ?_;first|refine wG (kD c0 Z Z Z Z Z) Z ?_|refine uS (kD c0 Z Z Z Z Z) Z Z Z ?_|refine ZU (kD c0 Z Z Z Z Z) Z Z Z ?_))|(refine zE ?_;first|refine SM ?_)|fail))
  refine ZH [1001] [6,27,25,26] ⟨[(6,.ref 1001 0 0),(27,iA 0),(25,.sl false X),(26,iA X.length)],[(1001,.arr 2 [] true)]⟩ ⟨[(6,.ref 1001 0 A.length),(27,iA (0+1)),(25,.sl false X),(26,iA X.length)],[(1001,.arr 2 A false)]⟩ ⟨[(6,.ref 1001 0 (A++B).length),(27,iA (0+1+1)),(25,.sl false X),(26,iA X.length)],[(1001,.arr 2 (A++B) true)]⟩ rfl Z ?_ ?_ ?_
  ·(repeat' (first|refine uL ?_|((first|apply xM|apply wA)<;>intro hc)|(refine zE ?_;first|(refine xC ?_;first|refine wF tok Z Z Z Z Z Z Z hhA Z Z Z zB Z ?_|refine aE tok Z Z Z Z Z Z Z Z Z Z Z hhB zB Z ?_))|fail))
   rfl
  ·(repeat' (first|refine uL ?_|((first|apply xM|apply wA)<;>intro hc)|(refine zE ?_;first|(refine xC ?_;first|refine wF tok Z Z Z Z Z Z Z hhA Z Z Z zB Z ?_|refine aE tok Z Z Z Z Z Z Z Z Z Z Z hhB zB Z ?_))|fail))
   rfl
  ·(refine WW ?_)
   exact zK [] Z Z (yA6 (AV.sl false) (by rw[yA9,yAf])) Z
def rmV (l:List Vh) (id:Int):List Vh:=l.filter λv=>decide (v.id≠id)
def zMz {l:List Vh} {id:Int} (h:TE l id=false):rmV l id=l:=by
 unfold rmV;refine yDj.2 λx hx=>yAe λe=>?_
 have:=yCy.1 h x hx;exact this (by rw[yBf];exact e)
def zM0 {l:List Vh} {id:Int} (hv:GP l=true) {k:Nat} (hk:k<l.length) (he:(l.getD k default).id=id):rmV l id=l.take k++l.drop (k+1):=by
 have e0:l.getD k default=l[k]:=by simp[List.getD,hk]
 have e1:l=l.take k++l[k]::l.drop (k+1):=by rw[List.getElem_cons_drop,yDq]
 have hlt:=zNd hv
 have h1:rmV (l.take k) id=l.take k:=by
  refine yDj.2 λx hx=>yAe λe=>?_
  obtain⟨i,hi,rfl⟩:=yCh hx;simp only[yA3]at hi;have q1:=hlt k hk i zB;have q2:l.getD i default=l[i]:=by simp[List.getD,show i<l.length by omega]
  rw[List.getElem_take]at e;rw[q2,e,he]at q1;omega
 have h2:rmV (l.drop (k+1)) id=l.drop (k+1):=by
  refine yDj.2 λx hx=>yAe λe=>?_
  obtain⟨i,hi,rfl⟩:=yCh hx;simp only[yBh]at hi;have q1:=hlt (k+1+i) zB k zB;have q2:l.getD (k+1+i) default=l[k+1+i]:=by simp[List.getD,show k+1+i<l.length by omega]
  rw[List.getElem_drop]at e;rw[q2,e,he]at q1;omega
 conv=>lhs;rw[e1]
 unfold rmV at h1 h2⊢;rw[yDc,yEw,zZ7 (by rw[<-e0,he];simp),h1,h2]
def zFs (l:List Vh) (hn:l.length<=1000000) (id:Int):yP [zD vZ l,iA id] [] (if GP l=true then(if(rmV l id).length=l.length then .tup [.sl false [],iA 12]else .tup [zD vZ (rmV l id),iA 0])else .tup [.sl false [],iA 1]) []:=yD
def BA (l:List Vh) (hn:l.length<=1000) (id:Int):∃(l':List Vh) (e:Int),((0<=e/\e<=100)/\(e≠0->l'=[]))/\l'.length<=l.length/\zN 241 [zD vZ l,iA id] [] (.tup [zD vZ l',iA e]) []/\yP [zD vZ l,iA id] [] (.tup [zD vZ l',iA e]) []:=by
 have hll:=zA vZ l;have p2:=VS l zB;have c:=zFs l zB id;obtain⟨k,k1,k2,k3⟩:=BH l id;have p3:=OU l id zB k k1 k2 k3
 cases hv:GP l with
 |false=>
  rw[hv]at p2 c;rw[zZ7 yAs]at c;refine⟨[],1,⟨zB,λ_=>rfl⟩,by simp,?_,c⟩;refine eM call241 λF hF=>?_
  refine WLo p2 ?_;exact zJ
 |true=>
 have hpl:=TJ (id:=id) hv k1 k2 k3;rw[hv]at p2 c;rw[zZ8 Z]at c
 cases hh:TE l id with
 | false=>
  rw[zZ8 (by rw[zMz hh])]at c;refine⟨[],12,⟨zB,λ_=>rfl⟩,by simp,?_,c⟩
  have hne:∀hk:k<l.length,(l.getD k default).id≠id:=λhk e=>by
   rw[hpl.2 ⟨hk,e⟩]at hh;cases hh
  clear hpl k2 k3 c;by_cases hk:k<l.length
  ·have hy:=zM vZ l k hk;have hne:=hne hk;generalize l.getD k default=x at *;refine eM call241 λF hF=>?_
   refine WLc (vH p2 p3) ?_;exact zJ
  ·clear hne;refine eM call241 λF hF=>?_
   refine WLc (vH p2 p3) ?_;exact zJ
 |true=>
  obtain⟨hk,he⟩:=hpl.1 hh;have er:=zM0 hv hk he;have hlen:(rmV l id).length=l.length-1:=by rw[er];simp;omega
  rw[zZ7 zB]at c;refine⟨rmV l id,0,⟨zB,λh=>absurd Z h⟩,zB,?_,c⟩;have c4:=zMy (l.take (k:Int).toNat) (l.drop ((k:Int)+1).toNat) vA vA;rw[show l.take (k:Int).toNat++l.drop ((k:Int)+1).toNat=rmV l id by rw[er];congr 1]at c4;have hy:=zM vZ l k hk;clear hpl k2 k3 c er hlen;generalize rmV l id=l' at *;generalize l.getD k default=x at *;refine eM call241 λF hF=>?_
  refine WLc (gK p2 p3 c4) ?_;exact zJ
def zS4 (t:Tk):zN 296 [yV t] [] (bA (!t.used)) []:=by
 obtain⟨u,a,b,c,d,e⟩:=t
 cases u with
 |true=>
  rw[show yV ⟨true,a,b,c,d,e⟩= .agg [bA true,zD yA a,iA b,iA c,iA d,iA e]from Z];refine eM call296 λF hF=>?_
  refine WW ?_;exact zJ
 |false=>
  rw[show yV ⟨false,a,b,c,d,e⟩= .agg [bA false,zD yA a,iA b,iA c,iA d,iA e]from Z];refine eM call296 λF hF=>?_
  refine WW ?_;exact zJ
def zY3 (l:List Tk) (hn:l.length<=1000000) (k:Nat) (hk:k<l.length) (h1:∀i,i<k->(l.getD i default).used=true) (h2:(l.getD k default).used=false):zN 295 [zD yV l,.fn 296 []] [] (iA k) []:=by
 have hl:=zA yV l;refine eM call295 λF hF=>?_
 refine WW ?_;refine xR (l.length) [] [] [0,1,7] [8,0,1,7] Z (λi T U zs=>(i<=k)/\zs=⟨(8,iA i)::T,U⟩) ?_;(conv=>whnf);refine⟨?_,?_,?_⟩
 ·exact⟨yAp _,rfl⟩
 ·rintro i st hi ⟨hik,rfl⟩;have hy:=zM yV l i hi;have c:=zS4 (l.getD i default);by_cases hie:i=k
  ·subst hie;rw[h2]at c;generalize l.getD i default=t at *;refine zV c ?_;exact zJ
  ·rw[h1 i zB]at c;generalize l.getD i default=t at *;refine zV c ?_;exact⟨zB,rfl⟩
 ·rintro st ⟨hik,rfl⟩;exfalso;omega
def AA (life now:Int):Int:=if 0<life then now+life else 0
def zRu (l:List Tk) (k:Nat) (t:Tk) (n:Nat) (hn:n=l.length):zD yV (l.set k t)= .sl false (((l.map yV).set k (yV t)).take n):=by
 rw[<-yB4,yAj vA];rfl
def T0K (l o:List Tk):Prop:=(l.getD 0 default).used=true->(l.getD 0 default).par= -1->o.getD 0 default=l.getD 0 default
def zFt (l:List Tk) (s:Int) (j:Nat):Tk:=if deF l j s=true then frT else l.getD j default
def VV (l:List Tk) (s:Int) (n:Nat):List Tk:=(List.range l.length).map λj=>if j<n then zFt l s j else l.getD j default
def RZ (l:List Tk) (s:Int) (n:Nat):(VV l s n).length=l.length:=by simp[VV]
def zM1 (l:List Tk) (s:Int):VV l s 0=l:=by
 apply yBi;intro i;unfold VV;rw[yAa];by_cases h:i<l.length
 ·rw[yA4 h];simp[h,List.getD]
 ·rw[yAz (l:=List.range l.length) vA,yAz zB];rfl
def zWq (l:List Tk) (s:Int) (n:Nat) (h:n<l.length):(VV l s n)[n]? =some (l.getD n default):=by
 unfold VV;rw[yAa,yA4 h];simp
def zM2 (l:List Tk) (s:Int) (n:Nat) (h:n<l.length):VV l s (n+1)=(VV l s n).set n (zFt l s n):=by
 apply yBi;intro i;rw[yB8];unfold VV;rw[yAa,yAa,zZ9,yBp];by_cases hi:i<l.length
 ·rw[yA4 hi];by_cases e:n=i
  ·subst e;rw[zZ8 Z,zZ8 hi];simp
  ·rw[zZ7 e];simp only[Option.map_some];by_cases h1:i<n
   ·rw[zZ8 h1,zZ8 zB]
   ·rw[zZ7 h1,zZ7 zB]
 ·rw[yAz (l:=List.range l.length) vA,zZ7 zB];rfl
def zFu (l:List Tk) (hb:GM l) (hv:NP l=true) (s:Int) (hs:1<=s/\s<8) (h8:l.length=8) (hu:(l.getD s.toNat default).used=true):zN 238 [zD yV l,iA s] [] (.tup [zD yV (VV l s l.length),iA 0]) []:=by
 have c1:=WE l;rw[hv]at c1;have c2:=YV l hb;have hll:=zA yV l;have hy:=yI yV l s zB zB;have hd:=λj=>zKs l j s
 have fc:=zAs;generalize l.getD s.toNat default=t at *;obtain⟨u,a1,a2,a3,a4,a5⟩:=t;dsimp only at hu;subst hu;rw[show yV ⟨true,a1,a2,a3,a4,a5⟩= .agg [bA true,zD yA a1,iA a2,iA a3,iA a4,iA a5]from Z]at hy;refine eM call238 λF hF=>?_
 refine yR (vH c1 c2) ?_;refine zO (l.length) [1001] [] [0,1,6,26] [27,0,1,6,26] Z (λi T U=>⟨(27,iA i)::T,(1001,.arr 6 ((VV l s i).map yV) false)::U⟩) ?_;(conv=>whnf);refine⟨by(rw[zM1];rfl),?_,?_⟩
 ·intro i hi;have hyi:((VV l s i).map yV)[i]? =some (yV (l.getD i default)):=by rw[yAa,zWq l s i hi];rfl
  have c3:=hd i;have hrl:i<((VV l s i).map yV).length:=by rw[zZ9,RZ];exact hi
  rw[zM2 l s i hi,yB4];have hset:(l.getD i default)=(l.getD i default):=rfl
  have hsame:((VV l s i).map yV).set i (yV (l.getD i default))=(VV l s i).map yV:=by
   rw[yAu]at hyi;obtain⟨h,e⟩:=hyi;rw[<-e,yFj]
  unfold zFt
  cases hde:deF l i s with
  |true=>
   rw[hde]at c3;rw[zZ8 Z];generalize (VV l s i).map yV=xs at *;generalize l.getD i default=ti at *;clear hsame hset hd c1 c2;refine yR (vH c3 fc) ?_;rfl
  |false=>
   rw[hde]at c3;rw[zZ7 yAs,hsame];generalize (VV l s i).map yV=xs at *;clear hsame hset hd c1 c2 fc;refine zV c3 ?_;rfl
 ·have hle:=RZ l s l.length;rw[show zD yV (VV l s l.length)= .sl false (((VV l s l.length).map yV).take (l.map yV).length) by rw[yAj (by simp[hle])];rfl];generalize (VV l s l.length).map yV=xs at *;refine WW ?_;exact zJ
def GQ (l:List Tk) (k:Nat) (e:Int) (t:Tk):List Tk:=if e=0 then l.set k t else []
def zWr {P:Nat->Prop}:∀n,P n->∃m,m<=n/\P m/\∀k,k<m->¬P k:=by
 intro n
 induction n using Nat.strongRecOn with
 |_ n ih=>
  intro h;by_cases hx:∃k,k<n/\P k
  ·obtain⟨k,h1,h2⟩:=hx;obtain⟨m,h3,h4,h5⟩:=ih k h1 h2;exact⟨m,zB,h4,h5⟩
  ·exact⟨n,yAb _,h,λk h1 h2=>hx ⟨k,h1,h2⟩⟩
def zWs (l:List Tk) (hn:l.length<=1000000) (h1:∀i,i<l.length->(l.getD i default).used=true):zN 295 [zD yV l,.fn 296 []] [] (iA (-1)) []:=by
 have hl:=zA yV l;refine eM call295 λF hF=>?_
 refine WW ?_;refine zO (l.length) [] [] [0,1,7] [8,0,1,7] Z (λi T U=>⟨(8,iA i)::T,U⟩) ?_;(conv=>whnf);refine⟨by rfl,?_,?_⟩
 ·intro i hi;have hy:=zM yV l i hi;have c:=zS4 (l.getD i default);rw[h1 i hi]at c;generalize l.getD i default=t at *;refine zV c ?_;rfl
 ·(refine WW ?_)
  exact zJ
def zM3 (l:List Tk) (p R c life now:Int):Prop:=∃(k:Nat) (e:Int),(0<=e/\e<=20)/\(k=0∨k<l.length)/\(e=0->NP l=true/\0<=p/\p<l.length/\(l.getD k default).used=false)/\∀sec:List Int,(sec.length:Int)=8->
 zN 265 [zD yV l,iA p,iA R,iA c,iA life,zD yA sec,iA now] [] (.tup [zD yV (GQ l k e ⟨true,sec,p,R,c,AA life now⟩),iA k,iA e]) []/\
 yP [zD yV l,iA p,iA R,iA c,iA life,zD yA sec,iA now] [] (.tup [zD yV (GQ l k e ⟨true,sec,p,R,c,AA life now⟩),iA k,iA e]) []
def eI {l:List Tk} {p R c life now:Int} (e:Int) (h1:1<=e) (h2:e<=20) (h:∀sec:List Int,(sec.length:Int)=8->zN 265 [zD yV l,iA p,iA R,iA c,iA life,zD yA sec,iA now] [] (.tup [zD yV [],iA 0,iA e]) []/\yP [zD yV l,iA p,iA R,iA c,iA life,zD yA sec,iA now] [] (.tup [zD yV [],iA 0,iA e]) []):zM3 l p R c life now:=
 ⟨0,e,⟨zB,h2⟩,.inl Z,λh0=>by omega,λsec hs=>by
  have hd:GQ l 0 e ⟨true,sec,p,R,c,AA life now⟩=[]:=by unfold GQ;rw[zZ7 zB]
  rw[hd]
  exact h sec hs⟩
theorem BB (l:List Tk) (hb:GM l) (p R c life now:Int):zM3 l p R c life now:=by
 have hn:=hb.n;have hll:=zA yV l;have c1:=WE l;have r1:=LC l;rw[<-zKh]at r1
 cases hv:NP l with
 | false=>
  rw[hv]at c1 r1
  exact eI 1 zB zB λsec hs=>⟨by
   have hls:=zA yA sec;refine eM call265 λF hF=>?_
   refine zV c1 ?_
   exact zJ,by
   have hls:=zA yA sec
   exact yD⟩
 |true=>
 rw[hv]at c1 r1;have h8:(l.length:Int)=8:=by unfold NP at hv;rw[yAk,yAc]at hv;exact hv.1
 by_cases hn0:0<=now
 case neg=>
  exact eI 1 zB zB λsec hs=>⟨by
   have hls:=zA yA sec;refine eM call265 λF hF=>?_
   refine zV c1 ?_
   exact zJ,by
   have hls:=zA yA sec
   exact yD⟩
 by_cases hn1:now<=1073741824
 case neg=>
  exact eI 1 zB zB λsec hs=>⟨by
   have hls:=zA yA sec;refine eM call265 λF hF=>?_
   refine zV c1 ?_
   exact zJ,by
   have hls:=zA yA sec
   exact yD⟩
 have c2:=zAr l p;by_cases hp0:0<=p
 case neg=>
  rw[show gX l p=false by unfold gX;rw[yAh (λh=>hp0 h.1)];rfl]at c2
  exact eI 12 zB zB λsec hs=>⟨by
   have hls:=zA yA sec;refine eM call265 λF hF=>?_
   refine yR (vH c1 c2) ?_
   exact zJ,by
   have hls:=zA yA sec
   exact yD⟩
 by_cases hp1:p<l.length
 case neg=>
  rw[show gX l p=false by unfold gX;rw[yAh (λh=>hp1 h.2)];rfl]at c2
  exact eI 12 zB zB λsec hs=>⟨by
   have hls:=zA yA sec;refine eM call265 λF hF=>?_
   refine yR (vH c1 c2) ?_
   exact zJ,by
   have hls:=zA yA sec
   exact yD⟩
 have hy:=yI yV l p hp0 hp1;have hus:gX l p=(l.getD p.toNat default).used:=by unfold gX;rw[yAe ⟨hp0,hp1⟩,yAv]
 rw[hus]at c2;have c3:=DG R (l.getD p.toNat default).rights;have r3:=zEz R (l.getD p.toNat default).rights;have c4:=zDd (AA life now) (l.getD p.toNat default).til;have r4:=zLg (AA life now) (l.getD p.toNat default).til
 have hun:AA life now=if 0<life then now+life else 0:=rfl
 generalize AA life now=un at *;clear hus;generalize l.getD p.toNat default=t at *;obtain⟨u,t1,t2,t3,t4,t5⟩:=t;rw[show∀u,yV ⟨u,t1,t2,t3,t4,t5⟩= .agg [bA u,zD yA t1,iA t2,iA t3,iA t4,iA t5]from λ_=>rfl]at hy;dsimp only at*
 cases u with
 | false=>
  exact eI 12 zB zB λsec hs=>⟨by
   have hls:=zA yA sec;refine eM call265 λF hF=>?_
   refine yR (vH c1 c2) ?_
   exact zJ,by
   have hls:=zA yA sec
   exact yD⟩
 |true=>
 cases hw:wiF R t3 with
 | false=>
  rw[hw]at c3 r3
  exact eI 8 zB zB λsec hs=>⟨by
   have hls:=zA yA sec;refine eM call265 λF hF=>?_
   refine yR (gK c1 c2 c3) ?_
   exact zJ,by
   have hls:=zA yA sec
   exact yD⟩
 |true=>
 rw[hw]at c3 r3;by_cases hc0:0<=c
 case neg=>
  exact eI 8 zB zB λsec hs=>⟨by
   have hls:=zA yA sec;refine eM call265 λF hF=>?_
   refine yR (gK c1 c2 c3) ?_
   exact zJ,by
   have hls:=zA yA sec
   exact yD⟩
 by_cases hc1:c<=t4
 case neg=>
  exact eI 8 zB zB λsec hs=>⟨by
   have hls:=zA yA sec;refine eM call265 λF hF=>?_
   refine yR (gK c1 c2 c3) ?_
   exact zJ,by
   have hls:=zA yA sec
   exact yD⟩
 by_cases hl0:0<=life
 case neg=>
  exact eI 8 zB zB λsec hs=>⟨by
   have hls:=zA yA sec;refine eM call265 λF hF=>?_
   refine yR (gK c1 c2 c3) ?_
   exact zJ,by
   have hls:=zA yA sec
   exact yD⟩
 by_cases hl1:life<=600
 case neg=>
  exact eI 8 zB zB λsec hs=>⟨by
   have hls:=zA yA sec;refine eM call265 λF hF=>?_
   refine yR (gK c1 c2 c3) ?_
   exact zJ,by
   have hls:=zA yA sec
   exact yD⟩
 cases hla:laF un t5 with
 | true=>
  rw[hla]at c4 r4;by_cases h0:0<life
  ·rw[zZ8 h0]at hun;subst hun
   exact eI 8 zB zB λsec hs=>⟨by
    have hls:=zA yA sec;refine eM call265 λF hF=>?_
    refine yR (ZK c1 c2 c3 c4) ?_
    exact zJ,by
    have hls:=zA yA sec
    exact yD⟩
  ·rw[zZ7 h0]at hun;subst hun
   exact eI 8 zB zB λsec hs=>⟨by
    have hls:=zA yA sec;refine eM call265 λF hF=>?_
    refine yR (ZK c1 c2 c3 c4) ?_
    exact zJ,by
    have hls:=zA yA sec
    exact yD⟩
 |false=>
 rw[hla]at c4 r4;clear hla hw;by_cases hex:∃k,k<l.length/\(l.getD k default).used=false
 case neg=>
  have hall:∀i,i<l.length->(l.getD i default).used=true:=λi hi=>by
   cases h:(l.getD i default).used with
   |true=>rfl
   |false=>exact absurd ⟨i,hi,h⟩ hex
  have c5:=zWs l hn hall
  rcases(show(0<life/\AA life now=now+life)∨(¬0<life/\AA life now=0) by unfold AA;by_cases h:0<life;exact .inl ⟨h,zZ8 h⟩;exact .inr ⟨h,zZ7 h⟩)with⟨h0,hu0⟩|⟨h0,hu0⟩
  ·rw[zZ8 h0]at hun;subst hun
   exact eI 10 zB zB λsec hs=>⟨by
    have hls:=zA yA sec;refine eM call265 λF hF=>?_
    refine yR (zt5 c1 c2 c3 c4 c5) ?_
    exact zJ,by
    have hls:=zA yA sec
    exact yD⟩
  ·rw[zZ7 h0]at hun;subst hun
   exact eI 10 zB zB λsec hs=>⟨by
    have hls:=zA yA sec;refine eM call265 λF hF=>?_
    refine yR (zt5 c1 c2 c3 c4 c5) ?_
    exact zJ,by
    have hls:=zA yA sec
    exact yD⟩
 obtain⟨k0,hk0,hu0⟩:=hex;obtain⟨k,_,⟨hk,hkf⟩,hkm⟩:=zWr (P:=λk=>k<l.length/\(l.getD k default).used=false) k0 ⟨hk0,hu0⟩
 have hbe:∀i,i<k->(l.getD i default).used=true:=λi hi=>by
  cases h:(l.getD i default).used with
  |true=>rfl
  |false=>exact absurd ⟨zB,h⟩ (hkm i hi)
 have c5:=zY3 l hn k hk hbe hkf;have c6:=YV l hb;have r6:=zAn l hb;refine⟨k,0,zB,.inr hk,λ_=>⟨hv,hp0,hp1,hkf⟩,λsec hs=>?_⟩;have hd:∀x:Tk,GQ l k 0 x=l.set k x:=λx=>by unfold GQ;rw[zZ8 Z]
 rw[hd];have c7:=wV sec zB;have hls:=zA yA sec;have hyk:=zM yV l k hk;have eS:=zRu l k ⟨true,sec,p,R,c,AA life now⟩ (l.map yV).length hll;rw[eS];clear eS hd;rw[show AA life now=if 0<life then now+life else 0 from Z];by_cases h0:0<life
 ·rw[zZ8 h0]at hun⊢;subst hun;refine⟨?_,?_⟩
  ·clear r1 r3 r4 r6 hbe hkm hkf;generalize l.getD k default=tk at *;refine eM call265 λF hF=>?_
   refine yR (zt7 c1 c2 c3 c4 c5 c6 c7) ?_;exact zJ
  ·clear c1 c2 c3 c4 c5 c6 c7;exact yD
 ·rw[zZ7 h0]at hun⊢;subst hun;refine⟨?_,?_⟩
  ·clear r1 r3 r4 r6 hbe hkm hkf;generalize l.getD k default=tk at *;refine eM call265 λF hF=>?_
   refine yR (zt7 c1 c2 c3 c4 c5 c6 c7) ?_;exact zJ
  ·clear c1 c2 c3 c4 c5 c6 c7;exact yD
def zY4 (l:List Tk) (s:Int) (h8:l.length=8):VV l s l.length=frB (λi=>ldF l 9 i s) l 8:=by
 unfold VV frB;apply yDk;intro j hj;have hj:=yAt.1 hj;unfold zFt;rw[zZ8 hj,zSl h8];by_cases h:ldF l 9 j s=true
 ·rw[zZ8 h,zZ8 ⟨zB,h⟩]
 ·rw[zZ7 h,zZ7 (λk=>h k.2)]
def ZG:GM []:=⟨by simp,λt h=>by simp at h⟩
def zWt {l:List Tk} (hb:GM l) (s:Int) (n:Nat):GM (VV l s n):=by
 refine⟨by rw[RZ];exact hb.n,λt ht=>?_⟩
 have hg:∀j,(l.getD j default).sec.length<=1000000:=λj=>by
  by_cases h:j<l.length
  ·exact hb.s _ (by simp[List.getD,h])
  ·rw[show l.getD j default=default by simp[List.getD,h]];exact yAp _
 unfold VV at ht;rw[yA5]at ht;obtain⟨j,_,rfl⟩:=ht;split
 ·unfold zFt;split
  ·exact yAp _
  ·exact hg j
 ·exact hg j
def zWu {l:List Tk} {s:Int} (h1:1<=s) (h8:1<=l.length):T0K l (VV l s l.length):=λhu hp=>by
 have e:deF l 0 s=false:=by
  unfold deF;rw[kS,show gX l 0=true by unfold gX;rw[yAe ⟨yB6 0,zB⟩,yAv];exact hu,yBn];rw[show(0:Int).toNat=0 from Z,hp];rw[kS,show gX l (-1)=false by unfold gX;rw[yAh zB,yBy],yB5];simp;omega
 unfold VV;rw[yAg,yAa,yA4 zB,Option.map_some,yCd,zZ8 zB];unfold zFt;rw[show((0:Nat):Int)=0 from Z,e,zZ7 yAs]
def BC (l:List Tk) (hb:GM l) (s:Int):∃(o:List Tk) (e:Int),(0<=e/\e<=20)/\GM o/\(e=0->o.length=l.length/\T0K l o)/\zN 238 [zD yV l,iA s] [] (.tup [zD yV o,iA e]) []/\yP [zD yV l,iA s] [] (.tup [zD yV o,iA e]) []:=by
 have hn:=hb.n;have hll:=zA yV l;have c1:=WE l;have r1:=LC l;rw[<-zKh]at r1
 cases hv:NP l with
 | false=>
  rw[hv]at c1 r1;refine⟨[],1,zB,ZG,λh=>absurd h xG,?_,?_⟩
  ·(refine eM call238 λF hF=>?_)
   refine zV c1 ?_;exact zJ
  ·exact yD
 |true=>
 rw[hv]at c1 r1;have h8:l.length=8:=by unfold NP at hv;rw[yAk,yAc]at hv;omega
 by_cases h1:1<=s
 case neg=>
  refine⟨[],8,zB,ZG,λh=>absurd h xG,?_,?_⟩
  ·(refine eM call238 λF hF=>?_)
   refine zV c1 ?_;exact zJ
  ·exact yD
 by_cases h2:s<8
 case neg=>
  refine⟨[],8,zB,ZG,λh=>absurd h xG,?_,?_⟩
  ·(refine eM call238 λF hF=>?_)
   refine zV c1 ?_;exact zJ
  ·exact yD
 have hy:=yI yV l s zB zB
 cases hu:(l.getD s.toNat default).used with
 | false=>
  rw[show yV (l.getD s.toNat default)=NE false (l.getD s.toNat default) by unfold yV NE;rw[hu]]at hy;unfold NE at hy;generalize l.getD s.toNat default=t at *;refine⟨[],12,zB,ZG,λh=>absurd h xG,?_,?_⟩
  ·(refine eM call238 λF hF=>?_)
   refine zV c1 ?_;exact zJ
  ·exact yD
 |true=>
  have cr:=zFu l hb hv s ⟨h1,h2⟩ h8 hu;have b1:=zO5 l s h8;rw[h8]at b1;have b2:=zO6 l hb (λi=>ldF l 9 i s) h8;rw[<-zY4 l s h8]at b2;rw[show yV (l.getD s.toNat default)=NE true (l.getD s.toNat default) by unfold yV NE;rw[hu]]at hy;unfold NE at hy;refine⟨VV l s l.length,0,zB,zWt hb s _,λ_=>⟨RZ l s _,zWu zB zB⟩,cr,?_⟩;clear cr hu;generalize VV l s l.length=l2 at *;generalize fT (λi=>ldF l 9 i s) 8=b at *;generalize l.getD s.toNat default=t at *;exact yD
def SV (r:Rg):xN:= .box [iA r.num,zD yA r.ag.sec,iA r.ag.rights,iA r.ag.cls,zD iA r.ag.lim,iA r.ag.req,iA r.ag.ses,iA r.ag.rate,iA r.ag.burst,zD yV r.tk,zD vZ r.vh,iA r.bk.level,iA r.bk.rate,iA r.bk.burst]
def rgT (r:Rg) (l:List Tk):Rg:=⟨r.num,r.ag,l,r.vh,r.bk⟩
def zS5 (m:Ms) (a:Int) (ha:m.args=[a]):zN 239 [yB m] [] (yB ⟨14,[],[m.kind,a],[]⟩) []:=by
 obtain⟨k,t,ar,d⟩:=m;dsimp only at ha⊢;subst ha;have hl1:([a].map iA).length=1:=rfl;refine eM call239 λF hF=>?_
 refine WL ?_;exact zJ
def zWv {l:List Tk} (h:NP l=true):GM l/\l.length=8:=by
 rw[zKh]at h;have T:=(zU7 l).1 h;refine⟨⟨by have:=T.n;omega,λt ht=>?_⟩,T.n⟩;obtain⟨i,hi,rfl⟩:=yCh ht;have hi8:i<8:=by have:=T.n;omega
 have e:l.getD i default=l[i]:=by simp[List.getD,hi]
 cases hu:(l.getD i default).used with
 |false=>
  have:=T.f i hi8 hu;unfold EP at this;rw[yAc]at this;rw[<-e];omega
 |true=>
  have:=(T.s i hi8 hu).1;unfold soF zKa at this;simp only[yAk,yAc]at this;rw[<-e];omega
def zWw {l:List Tk} (hb:GM l) (k:Nat) (e:Int) (t:Tk) (ht:t.sec.length<=1000000):GM (GQ l k e t):=by
 unfold GQ;split
 ·refine⟨by rw[yBv];exact hb.n,λx hx=>?_⟩
  rcases yDt hx with h|rfl
  ·exact hb.s x h
  ·exact ht
 ·exact ZG
structure GvB (r:Rg):Prop where
 num:0<=r.num/\r.num<4
 b:DK r
 tv:NP r.tk=true
 n8:r.tk.length=8
 lim:(r.ag.lim.length:Int)=4
 cls:0<=r.ag.cls/\r.ag.cls<=3
 vl:r.vh.length<=8
def zM4 {r:Rg} (h:gvF r=true):GvB r:=by
 unfold gvF at h;simp only[yAk,yAc]at h;obtain⟨h1,h2,h3,h4,h5,h6⟩:=h;obtain⟨t1,t2⟩:=zWv h3;have hv:=(zS6.1 h4).1;unfold avF at h2;simp only[yAk,yAc]at h2;obtain⟨⟨a1,a2⟩,a3,a4,a5,a6⟩:=h2;unfold jD at a5;rw[yAc]at a5;exact⟨h1,⟨t1,zB,zB,zB⟩,h3,t2,a2,a5,hv⟩
def rg0:Rg:=⟨0,⟨[],0,0,[],0,0,0,0⟩,[],[],⟨0,0,0⟩⟩
def QA:Ms:=⟨0,[],[],[]⟩
def doR (e:Int):AV:= .tup [uX rg0,yB QA,bA false,iA e]
def zY5:DK rg0:=⟨ZG,yAp _,yAp _,yAp _⟩
def dJ (e:Int):doR e= .tup [.agg [iA 0,.sl false [],iA 0,iA 0,.sl false [],iA 0,iA 0,iA 0,iA 0,.sl false [],.sl false [],iA 0,iA 0,iA 0],.agg [iA 0,.sl false [],.sl false [],.sl false []],bA false,iA e]:=rfl
def XK (r:Rg) (m:Ms) (s now:Int) (sec:List Int) (gv b us:Bool) (c1:zN 235 [uX r] [] (bA gv) []) (c2:zN 195 [yB m] [] (bA b) []) (c3:zN 236 [zD yV r.tk,iA s] [] (bA us) []) (h:gv=false∨b=false∨us=false∨(¬(sec.length:Int)=0/\¬(sec.length:Int)=8)) (hsl:sec.length<=1000):
  zN 220 [uX r,yB m,iA s,iA now,zD yA sec] [] (doR 1) []:=by
 rw[dJ];have hls:=zA yA sec;cases gv
 ·(refine eM call220 λF hF=>?_)
  refine zV c1 ?_;exact zJ
 cases b
 ·(refine eM call220 λF hF=>?_)
  refine yR (vH c1 c2) ?_;exact zJ
 cases us
 ·(refine eM call220 λF hF=>?_)
  refine yR (gK c1 c2 c3) ?_;exact zJ
 ·rcases h with h|h|h|⟨h1,h2⟩
  ·cases h
  ·cases h
  ·cases h
  ·(refine eM call220 λF hF=>?_)
   refine yR (gK c1 c2 c3) ?_;exact zJ
def zM5 (r:Rg) (m:Ms) (s now:Int) (sec:List Int) (c1:yP [uX r] [] (bA false) []):
 yP [uX r,yB m,iA s,iA now,zD yA sec] [] (doR 1) []:=yD
def zM6 (r:Rg) (m:Ms) (s now:Int) (sec:List Int) (c1:yP [uX r] [] (bA true) []) (h2:¬m.kind=2) (h3:¬m.kind=3) (h4:¬m.kind=4) (h5:¬m.kind=5):
 yP [uX r,yB m,iA s,iA now,zD yA sec] [] (doR 1) []:=yD
def OT (r:Rg) (m:Ms) (s now:Int) (sec:List Int) (n8:r.tk.length=8) (b:Bool) (c1:yP [uX r] [] (bA true) []) (c2:zN 98 [yB m] [] (bA b) []) (hk:m.kind=2∨m.kind=3∨m.kind=4∨m.kind=5)
 (h:b=false∨gX r.tk s=false∨(¬(sec.length:Int)=0/\¬(sec.length:Int)=8)) (hsl:sec.length<=1000):yP [uX r,yB m,iA s,iA now,zD yA sec] [] (doR 1) []:=yD
def zBm (k a:Int):yP [iA k,iA a] [] (yB ⟨14,[],[k,a],[]⟩) []:=yD
def rgV (r:Rg) (l:List Vh):Rg:=⟨r.num,r.ag,r.tk,l,r.bk⟩
def DoP (r:Rg) (m:Ms) (sec:List Int) (r':Rg) (p:Ms) (u:Bool) (e:Int):Prop:=
 (e≠0->u=false/\0<=e/\e<=100)/\(e=0->(∃o,o.length=8/\T0K r.tk o/\r'=rgT r o/\((u=false/\p=⟨14,[],[3,m.args.getD 0 0],[]⟩/\m.kind=3)∨(u=true/\sec.length=8/\m.kind=2/\∃k:Nat,k<8/\p=⟨16,[],[(k:Int)],r.num::(k:Int)::sec⟩)))∨
  (∃o,o.length<=8/\r'=rgV r o/\u=false/\(m.kind=4∨m.kind=5)/\p=⟨14,[],[m.kind,m.args.getD 0 0],[]⟩))
def XL (r:Rg) (m:Ms) (s now:Int) (sec:List Int):Prop:=∃(r':Rg) (p:Ms) (u:Bool) (e:Int),DK r'/\MsB p/\DoP r m sec r' p u e/\
 zN 220 [uX r,yB m,iA s,iA now,zD yA sec] [] (.tup [uX r',yB p,bA u,iA e]) []/\
 yP [uX r,yB m,iA s,iA now,zD yA sec] [] (.tup [uX r',yB p,bA u,iA e]) []
def zY6:MsB QA:=⟨yAp _,yAp _,yAp _⟩
theorem XL.bad {r:Rg} {m:Ms} {s now:Int} {sec:List Int} (e:Int) (he:e≠0) (h1:zN 220 [uX r,yB m,iA s,iA now,zD yA sec] [] (doR e) []) (h2:yP [uX r,yB m,iA s,iA now,zD yA sec] [] (doR e) []) (hb:0<=e/\e<=100:=by omega):XL r m s now sec:=
 ⟨rg0,QA,false,e,zY5,zY6,⟨λ_=>⟨rfl,hb⟩,λh=>absurd h he⟩,h1,h2⟩
def do3 (r:Rg) (hgv:gvF r=true) (tkn:List Int) (a s now:Int) (sec:List Int) (hu:gX r.tk s=true) (hs:(sec.length:Int)=0∨(sec.length:Int)=8)
  (m1:zN 195 [yB ⟨3,tkn,[a],[]⟩] [] (bA true) []) (m2:zN 98 [yB ⟨3,tkn,[a],[]⟩] [] (bA true) []):XL r ⟨3,tkn,[a],[]⟩ s now sec:=by
 have H:=zM4 hgv;have c1:=aM r ME;have k1:=dY r ME;rw[hgv]at c1 k1;have c3:=VR r.tk s;rw[hu]at c3;have c4:=fU r H.b;have k4:=RO r H.b;have c6:=zS5 ⟨3,tkn,[a],[]⟩ a Z;have k6:=zBm 3 a;rw[show yB ⟨14,[],[(⟨3,tkn,[a],[]⟩:Ms).kind,a],[]⟩= .agg [iA 14,.sl false [],.sl false [iA 3,iA a],.sl false []]from Z]at c6;rw[show yB ⟨14,[],[3,a],[]⟩= .agg [iA 14,.sl false [],.sl false [iA 3,iA a],.sl false []]from Z]at k6;obtain⟨o,e,_,ho,ho8,c5,k5⟩:=BC r.tk H.b.tk a;have hls:=zA yA sec;have hlt:=zA yV r.tk;have hl1:([a].map iA).length=1:=rfl
 have hU:(r.tk.getD s.toNat default).used=true/\0<=s/\s<8:=by
  unfold gX at hu;rw[yAk,yAc]at hu;exact⟨hu.2,hu.1.1,by have:=H.n8;omega⟩
 have hn8:=H.n8;have hy:=yI yV r.tk s hU.2.1 zB;have hbR:DK (rgT r o):=⟨ho,H.b.s,H.b.l,H.b.v⟩;obtain⟨hU,hs0,hs8⟩:=hU;clear hu H hgv;generalize r.tk.getD s.toNat default=x at *;obtain⟨xu,x1,x2,x3,x4,x5⟩:=x;dsimp only at hU;subst hU;rw[show yV ⟨true,x1,x2,x3,x4,x5⟩= .agg [bA true,zD yA x1,iA x2,iA x3,iA x4,iA x5]from Z]at hy;by_cases he:e=0
 ·subst he;refine⟨rgT r o,⟨14,[],[3,a],[]⟩,false,0,hbR,⟨yAp _,by simp,yAp _⟩,⟨λh=>absurd Z h,λ_=> .inl ⟨o,by rw[(ho8 Z).1,hn8],(ho8 Z).2,rfl,.inl ⟨rfl,rfl,rfl⟩⟩⟩,?_,?_⟩
  ·rw[show yB ⟨14,[],[3,a],[]⟩= .agg [iA 14,.sl false [],.sl false [iA 3,iA a],.sl false []]from Z]
   rcases hs with hs|hs
   all_goals
    refine eM call220 λF hF=>?_
    refine yR (zt6 c1 m1 c3 c4 c5 c6) ?_;exact zJ
  ·rw[show yB ⟨14,[],[3,a],[]⟩= .agg [iA 14,.sl false [],.sl false [iA 3,iA a],.sl false []]from Z]
   rcases hs with hs|hs
   all_goals
    exact yD
 ·refine .bad e he ?_ ?_
  ·rw[dJ]
   rcases hs with hs|hs
   all_goals
    refine eM call220 λF hF=>?_
    refine yR (zt6 c1 m1 c3 c4 c5 c6) ?_;exact zJ
  ·rw[dJ]
   rcases hs with hs|hs
   all_goals
    exact yD
def do5 (r:Rg) (hgv:gvF r=true) (tkn:List Int) (a s now:Int) (sec:List Int) (hu:gX r.tk s=true) (hs:(sec.length:Int)=0∨(sec.length:Int)=8)
  (m1:zN 195 [yB ⟨5,tkn,[a],[]⟩] [] (bA true) []) (m2:zN 98 [yB ⟨5,tkn,[a],[]⟩] [] (bA true) []):XL r ⟨5,tkn,[a],[]⟩ s now sec:=by
 have H:=zM4 hgv;have c1:=aM r ME;have k1:=dY r ME;rw[hgv]at c1 k1;have c3:=VR r.tk s;rw[hu]at c3;have c4:=fU r H.b;have k4:=RO r H.b;have c6:=zS5 ⟨5,tkn,[a],[]⟩ a Z;have k6:=zBm 5 a;rw[show yB ⟨14,[],[(⟨5,tkn,[a],[]⟩:Ms).kind,a],[]⟩= .agg [iA 14,.sl false [],.sl false [iA 5,iA a],.sl false []]from Z]at c6;rw[show yB ⟨14,[],[5,a],[]⟩= .agg [iA 14,.sl false [],.sl false [iA 5,iA a],.sl false []]from Z]at k6;obtain⟨o,e,⟨heb,_⟩,ho,c5,k5⟩:=BA r.vh ME a;have hls:=zA yA sec;have hlt:=zA yV r.tk;have hl1:([a].map iA).length=1:=rfl
 have hU:(r.tk.getD s.toNat default).used=true/\0<=s/\s<8:=by
  unfold gX at hu;rw[yAk,yAc]at hu;exact⟨hu.2,hu.1.1,by have:=H.n8;omega⟩
 have hn8:=H.n8;have hy:=yI yV r.tk s hU.2.1 zB;have ho9:o.length<=8:=by have:=H.vl;omega
 have hbR:DK (rgV r o):=⟨H.b.tk,H.b.s,H.b.l,by have:=H.vl;show o.length<=_;omega⟩;obtain⟨hU,hs0,hs8⟩:=hU;clear hu H hgv;generalize r.tk.getD s.toNat default=x at *;obtain⟨xu,x1,x2,x3,x4,x5⟩:=x;dsimp only at hU;subst hU;rw[show yV ⟨true,x1,x2,x3,x4,x5⟩= .agg [bA true,zD yA x1,iA x2,iA x3,iA x4,iA x5]from Z]at hy;by_cases he:e=0
 ·subst he;refine⟨rgV r o,⟨14,[],[5,a],[]⟩,false,0,hbR,⟨yAp _,by simp,yAp _⟩,⟨λh=>absurd Z h,λ_=> .inr ⟨o,ho9,rfl,rfl,.inr Z,rfl⟩⟩,?_,?_⟩
  ·rw[show yB ⟨14,[],[5,a],[]⟩= .agg [iA 14,.sl false [],.sl false [iA 5,iA a],.sl false []]from Z]
   rcases hs with hs|hs
   all_goals
    refine eM call220 λF hF=>?_
    refine yR (zt6 c1 m1 c3 c4 c5 c6) ?_;exact zJ
  ·rw[show yB ⟨14,[],[5,a],[]⟩= .agg [iA 14,.sl false [],.sl false [iA 5,iA a],.sl false []]from Z]
   rcases hs with hs|hs
   all_goals
    exact yD
 ·refine .bad e he ?_ ?_
  ·rw[dJ]
   rcases hs with hs|hs
   all_goals
    refine eM call220 λF hF=>?_
    refine yR (zt6 c1 m1 c3 c4 c5 c6) ?_;exact zJ
  ·rw[dJ]
   rcases hs with hs|hs
   all_goals
    exact yD
def BD (r:Rg) (a b s:Int) (n8:r.tk.length=8) (h0:0<=s) (h8:s<8) (o:List Vh) (e:Int) (c:zN 268 [zD vZ r.vh,wK (agC r.ag (min r.ag.cls (r.tk.getD s.toNat default).cls)),vZ ⟨a,b⟩] [] (.tup [zD vZ o,iA e]) []):
  zN 240 [uX r,zD iA [a,b],iA s] [] (.tup [zD vZ o,iA e]) []:=by
 have hlt:=zA yV r.tk;have hl1:([a,b].map iA).length=2:=rfl;have hy:=yI yV r.tk s h0 zB;generalize r.tk.getD s.toNat default=x at *;obtain⟨xu,x1,x2,x3,x4,x5⟩:=x;rw[show yV ⟨xu,x1,x2,x3,x4,x5⟩= .agg [bA xu,zD yA x1,iA x2,iA x3,iA x4,iA x5]from Z]at hy;rw[show(⟨xu,x1,x2,x3,x4,x5⟩:Tk).cls=x4 from Z]at c;have hAG:wK (agC r.ag (min r.ag.cls x4))= .agg [zD yA r.ag.sec,iA r.ag.rights,iA (min r.ag.cls x4),zD iA r.ag.lim,iA r.ag.req,iA r.ag.ses,iA r.ag.rate,iA r.ag.burst]:=rfl;rw[hAG]at c;rw[show vZ ⟨a,b⟩= .agg [iA a,iA b]from Z]at c;refine eM call240 λF hF=>?_
 refine zV c ?_;exact zJ
def do4 (r:Rg) (hgv:gvF r=true) (tkn:List Int) (a b s now:Int) (sec:List Int) (hu:gX r.tk s=true) (hs:(sec.length:Int)=0∨(sec.length:Int)=8)
  (m1:zN 195 [yB ⟨4,tkn,[a,b],[]⟩] [] (bA true) []) (m2:zN 98 [yB ⟨4,tkn,[a,b],[]⟩] [] (bA true) []):XL r ⟨4,tkn,[a,b],[]⟩ s now sec:=by
 have H:=zM4 hgv;have c1:=aM r ME;have k1:=dY r ME;rw[hgv]at c1 k1;have c3:=VR r.tk s;rw[hu]at c3;have c4:=fU r H.b;have k4:=RO r H.b
 have c6:zN 239 [yB ⟨4,tkn,[a,b],[]⟩] [] (yB ⟨14,[],[4,a],[]⟩) []:=by
  have hl1:([a,b].map iA).length=2:=rfl;refine eM call239 λF hF=>?_
  refine WL ?_;exact zJ
 have k6:=zBm 4 a;rw[show yB ⟨14,[],[4,a],[]⟩= .agg [iA 14,.sl false [],.sl false [iA 4,iA a],.sl false []]from Z]at c6 k6;obtain⟨o,e,⟨heb,_⟩,⟨ho,ho8⟩,cv,k5⟩:=MH r.vh ME r.ag (r.tk.getD s.toNat default).cls H.lim H.cls.2 ⟨a,b⟩;have hls:=zA yA sec;have hlt:=zA yV r.tk;have hl1:([a,b].map iA).length=2:=rfl
 have hU:(r.tk.getD s.toNat default).used=true/\0<=s/\s<8:=by
  unfold gX at hu;rw[yAk,yAc]at hu;exact⟨hu.2,hu.1.1,by have:=H.n8;omega⟩
 have hn8:=H.n8;have hy:=yI yV r.tk s hU.2.1 zB;have ho9:o.length<=8:=by have:=H.vl;omega
 have hbR:DK (rgV r o):=⟨H.b.tk,H.b.s,H.b.l,by have:=H.vl;show o.length<=_;omega⟩;obtain⟨hU,hs0,hs8⟩:=hU;have c5:=BD r a b s hn8 hs0 hs8 o e cv;clear hu H hgv cv;generalize r.tk.getD s.toNat default=x at *;obtain⟨xu,x1,x2,x3,x4,x5⟩:=x;dsimp only at hU;subst hU;rw[show yV ⟨true,x1,x2,x3,x4,x5⟩= .agg [bA true,zD yA x1,iA x2,iA x3,iA x4,iA x5]from Z]at hy;rw[show(⟨true,x1,x2,x3,x4,x5⟩:Tk).cls=x4 from Z,show vZ ⟨a,b⟩= .agg [iA a,iA b]from Z,show wK r.ag= .agg [zD yA r.ag.sec,iA r.ag.rights,iA r.ag.cls,zD iA r.ag.lim,iA r.ag.req,iA r.ag.ses,iA r.ag.rate,iA r.ag.burst]from Z]at k5;by_cases he:e=0
 ·subst he;refine⟨rgV r o,⟨14,[],[4,a],[]⟩,false,0,hbR,⟨yAp _,by simp,yAp _⟩,⟨λh=>absurd Z h,λ_=> .inr ⟨o,ho9,rfl,rfl,.inl Z,rfl⟩⟩,?_,?_⟩
  ·rw[show yB ⟨14,[],[4,a],[]⟩= .agg [iA 14,.sl false [],.sl false [iA 4,iA a],.sl false []]from Z]
   rcases hs with hs|hs
   all_goals
    refine eM call220 λF hF=>?_
    refine yR (zt6 c1 m1 c3 c4 c5 c6) ?_;exact zJ
  ·rw[show yB ⟨14,[],[4,a],[]⟩= .agg [iA 14,.sl false [],.sl false [iA 4,iA a],.sl false []]from Z]
   rcases hs with hs|hs
   all_goals
    exact yD
 ·refine .bad e he ?_ ?_
  ·rw[dJ]
   rcases hs with hs|hs
   all_goals
    refine eM call220 λF hF=>?_
    refine yR (zt6 c1 m1 c3 c4 c5 c6) ?_;exact zJ
  ·rw[dJ]
   rcases hs with hs|hs
   all_goals
    exact yD
def zFv:AV:= .agg [iA 0,.s (.slice none 0 0),.s (.slice none 0 0),.s (.slice none 0 0)]
def zBn (r:Rg) (s R c life now e:Int) (he:¬e=0) (k:Nat) (sec:List Int)
  (c1:zN 265 [zD yV r.tk,iA s,iA R,iA c,iA life,zD yA (List.replicate 8 0),iA now] [] (.tup [.sl false [],iA k,iA e]) []):
  zN 237 [.ptr 14 0 0,zD iA [R,c,life],iA s,iA now,zD yA sec] [(14,SV r)] (.tup [zFv,iA e]) [(14,SV r)]:=by
 have hls:=zA yA sec;have hl3:([R,c,life].map iA).length=3:=rfl;unfold SV zFv;rw[show zD yA (List.replicate 8 0)= .sl false (List.replicate 8 (AV.s (.int .u8 0)))from Z]at c1;refine eM call237 λF hF=>?_
 (repeat' (first|refine WZX ?_|((first|apply xM|apply wA)<;>intro hc)|(refine zE ?_;first|refine SM ?_)|fail))
 refine uZ (st':=⟨[(0,.ptr 14 0 0),(1,zD iA [R,c,life]),(2,iA s),(3,iA now),(4,zD yA sec),(10,.ptr 10 0 0),(11,iA 0),(12,.sl false (List.replicate 8 (AV.s (.int .u8 0))))],[(14,.box [iA r.num,zD yA r.ag.sec,iA r.ag.rights,iA r.ag.cls,zD iA r.ag.lim,iA r.ag.req,iA r.ag.ses,iA r.ag.rate,iA r.ag.burst,zD yV r.tk,zD vZ r.vh,iA r.bk.level,iA r.bk.rate,iA r.bk.burst]),(10,.box [iA 0,.s (.slice none 0 0),.s (.slice none 0 0),.s (.slice none 0 0)])]⟩) [14,10] [0,1,2,3,4,10,11,12] Z Z ?_;refine zV c1 ?_;exact zL [14] Z Z Z Z
def zBo (r:Rg) (s R c life now:Int) (k:Nat) (l1:List Tk)
  (c1:zN 265 [zD yV r.tk,iA s,iA R,iA c,iA life,zD yA (List.replicate 8 0),iA now] [] (.tup [zD yV l1,iA k,iA 0]) []):
  zN 237 [.ptr 14 0 0,zD iA [R,c,life],iA s,iA now,zD yA []] [(14,SV r)] (.tup [zFv,iA 18]) [(14,SV r)]:=by
 have hls:(([]:List Int).map yA).length=0:=rfl;have hl3:([R,c,life].map iA).length=3:=rfl;unfold SV zFv;rw[show zD yA (List.replicate 8 0)= .sl false (List.replicate 8 (AV.s (.int .u8 0)))from Z]at c1;refine eM call237 λF hF=>?_
 (repeat' (first|refine WZX ?_|((first|apply xM|apply wA)<;>intro hc)|(refine zE ?_;first|refine SM ?_)|fail))
 refine uZ (st':=⟨[(0,.ptr 14 0 0),(1,zD iA [R,c,life]),(2,iA s),(3,iA now),(4,zD yA []),(10,.ptr 10 0 0),(11,iA 0),(12,.sl false (List.replicate 8 (AV.s (.int .u8 0))))],[(14,.box [iA r.num,zD yA r.ag.sec,iA r.ag.rights,iA r.ag.cls,zD iA r.ag.lim,iA r.ag.req,iA r.ag.ses,iA r.ag.rate,iA r.ag.burst,zD yV r.tk,zD vZ r.vh,iA r.bk.level,iA r.bk.rate,iA r.bk.burst]),(10,.box [iA 0,.s (.slice none 0 0),.s (.slice none 0 0),.s (.slice none 0 0)])]⟩) [14,10] [0,1,2,3,4,10,11,12] Z Z ?_;refine zV c1 ?_;exact zL [14] Z Z Z Z
def zBp (r:Rg) (hg:0<=r.num/\r.num<4) (s R c life now:Int) (sec:List Int) (hs:(sec.length:Int)=8) (k:Nat) (hk8:k<8) (l1 l2:List Tk)
  (c1:zN 265 [zD yV r.tk,iA s,iA R,iA c,iA life,zD yA (List.replicate 8 0),iA now] [] (.tup [zD yV l1,iA k,iA 0]) [])
  (c2:zN 265 [zD yV r.tk,iA s,iA R,iA c,iA life,zD yA sec,iA now] [] (.tup [zD yV l2,iA k,iA 0]) []):
  zN 237 [.ptr 14 0 0,zD iA [R,c,life],iA s,iA now,zD yA sec] [(14,SV r)] (.tup [.agg [iA 16,.s (.slice none 0 0),.sl false [iA k],zD yA (r.num::(k:Int)::sec)],iA 0]) [(14,SV (rgT r l2))]:=by
 have c3:=zMw r.num k sec zB zB zB zB zB;have hls:=zA yA sec;have hl3:([R,c,life].map iA).length=3:=rfl;unfold SV rgT;dsimp only;generalize r.num::(k:Int)::sec=by1 at *;rw[show zD yA (List.replicate 8 0)= .sl false (List.replicate 8 (AV.s (.int .u8 0)))from Z]at c1;refine eM call237 λF hF=>?_
 (repeat' (first|refine WZX ?_|((first|apply xM|apply wA)<;>intro hc)|(refine zE ?_;first|refine SM ?_)|fail))
 refine uZ (st':=⟨[(0,.ptr 14 0 0),(1,zD iA [R,c,life]),(2,iA s),(3,iA now),(4,zD yA sec),(10,.ptr 10 0 0),(11,iA 0),(12,.sl false (List.replicate 8 (AV.s (.int .u8 0))))],[(14,.box [iA r.num,zD yA r.ag.sec,iA r.ag.rights,iA r.ag.cls,zD iA r.ag.lim,iA r.ag.req,iA r.ag.ses,iA r.ag.rate,iA r.ag.burst,zD yV r.tk,zD vZ r.vh,iA r.bk.level,iA r.bk.rate,iA r.bk.burst]),(10,.box [iA 0,.s (.slice none 0 0),.s (.slice none 0 0),.s (.slice none 0 0)])]⟩) [14,10] [0,1,2,3,4,10,11,12] Z Z ?_;refine yR (gK c1 c2 c3) ?_;exact zL [14] Z Z Z Z
def BE (r:Rg) (n8:r.tk.length=8) (tkn:List Int) (R c life s now:Int) (hs0:0<=s) (hs8:s<8) (x1:List Int) (x2 x3 x4 x5:Int) (hy:(r.tk.map yV)[s.toNat]? =some (.agg [bA true,zD yA x1,iA x2,iA x3,iA x4,iA x5])) (k:Nat) (e f:Int) (hf:(e=0/\f=18)∨(¬e=0/\f=e)) (l1:List Tk)
 (k1:yP [uX r] [] (bA true) []) (m2:zN 98 [yB ⟨2,tkn,[R,c,life],[]⟩] [] (bA true) []) (k4:yP [uX r] [] (uX r) [])
 (e1:yP [zD yV r.tk,iA s,iA R,iA c,iA life,zD yA (List.replicate 8 0),iA now] [] (.tup [zD yV l1,iA k,iA e]) []) (kb:zN 51 [iA r.num,iA k,zD yA []] [] (zD yA (r.num::(k:Int)::[])) []):
 yP [uX r,yB ⟨2,tkn,[R,c,life],[]⟩,iA s,iA now,zD yA []] [] (doR f) []:=yD
def BF (r:Rg) (n8:r.tk.length=8) (tkn:List Int) (R c life s now:Int) (sec:List Int) (hsl:(sec.length:Int)=8) (hs0:0<=s) (hs8:s<8) (x1:List Int) (x2 x3 x4 x5:Int) (hy:(r.tk.map yV)[s.toNat]? =some (.agg [bA true,zD yA x1,iA x2,iA x3,iA x4,iA x5])) (k:Nat) (e:Int) (l1:List Tk)
 (k1:yP [uX r] [] (bA true) []) (m2:zN 98 [yB ⟨2,tkn,[R,c,life],[]⟩] [] (bA true) []) (k4:yP [uX r] [] (uX r) [])
 (e1:yP [zD yV r.tk,iA s,iA R,iA c,iA life,zD yA sec,iA now] [] (.tup [zD yV l1,iA k,iA e]) []) (kb:zN 51 [iA r.num,iA k,zD yA sec] [] (zD yA (r.num::(k:Int)::sec)) []):
 yP [uX r,yB ⟨2,tkn,[R,c,life],[]⟩,iA s,iA now,zD yA sec] [] (if e=0 then .tup [uX (rgT r l1),yB ⟨16,[],[(k:Int)],r.num::(k:Int)::sec⟩,bA true,iA 0]else doR e) []:=yD
theorem do2 (r:Rg) (hgv:gvF r=true) (tkn:List Int) (R c life s now:Int) (sec:List Int) (hu:gX r.tk s=true) (hs:(sec.length:Int)=0∨(sec.length:Int)=8)
  (m1:zN 195 [yB ⟨2,tkn,[R,c,life],[]⟩] [] (bA true) []) (m2:zN 98 [yB ⟨2,tkn,[R,c,life],[]⟩] [] (bA true) []):XL r ⟨2,tkn,[R,c,life],[]⟩ s now sec:=by
 have H:=zM4 hgv;have c1:=aM r ME;have k1:=dY r ME;rw[hgv]at c1 k1;have c3:=VR r.tk s;rw[hu]at c3;have c4:=fU r H.b;have k4:=RO r H.b;obtain⟨k,e,_,hk,hkf,hD⟩:=BB r.tk H.b.tk s R c life now;have hn8:=H.n8
 have hk8:k<8:=by rcases hk with h|h<;>omega
 have hT0:e=0->∀t,T0K r.tk (GQ r.tk k e t):=λhe t h1 _=>by
  have h2:=(hkf he).2.2.2;unfold GQ;rw[zZ8 he];have hk0:k≠0:=λh=>by rw[h,h1]at h2;cases h2
  simp[List.getD,yB8,hk0]
 clear hkf;have kb:=zKx r.num k sec zB H.num.1 (by have:=H.num;omega) zB zB;have hnum:=H.num;have hls:=zA yA sec;have hlt:=zA yV r.tk;have hl1:([R,c,life].map iA).length=3:=rfl
 have hU:(r.tk.getD s.toNat default).used=true/\0<=s/\s<8:=by
  unfold gX at hu;rw[yAk,yAc]at hu;exact⟨hu.2,hu.1.1,zB⟩
 have hy:=yI yV r.tk s hU.2.1 zB;have hbR:∀t:Tk,t.sec.length<=1000000->DK (rgT r (GQ r.tk k e t)):=λt ht=>⟨zWw H.b.tk k e t ht,H.b.s,H.b.l,H.b.v⟩
 obtain⟨hU,hs0,hs8⟩:=hU;clear hu H hgv hk;generalize r.tk.getD s.toNat default=x at *;obtain⟨xu,x1,x2,x3,x4,x5⟩:=x;dsimp only at hU;subst hU;rw[show yV ⟨true,x1,x2,x3,x4,x5⟩= .agg [bA true,zD yA x1,iA x2,iA x3,iA x4,iA x5]from Z]at hy;obtain⟨d1,e1⟩:=hD (List.replicate 8 0) Z;by_cases he:e=0
 ·subst he
  rcases hs with hs|hs
  ·
   have hs:=yBa (show sec.length=0 by omega);subst hs;have R1:=BE r hn8 tkn R c life s now hs0 hs8 x1 x2 x3 x4 x5 hy k 0 18 (.inl ⟨rfl,rfl⟩) _ k1 m2 k4 e1 kb;refine .bad 18 xG ?_ R1;clear R1;generalize GQ r.tk k 0 ⟨true,List.replicate 8 0,s,R,c,AA life now⟩=l1 at *;have c5:=zBo r s R c life now k l1 d1;unfold SV zFv at c5;clear hD hbR;rw[dJ];refine eM call220 λF hF=>?_
   refine yR (zt5 c1 m1 c3 c4 c5) ?_;exact zJ
  ·obtain⟨d2,e2⟩:=hD sec hs;have R1:=BF r hn8 tkn R c life s now sec hs hs0 hs8 x1 x2 x3 x4 x5 hy k 0 _ k1 m2 k4 e2 kb;rw[zZ8 Z]at R1;refine⟨rgT r (GQ r.tk k 0 ⟨true,sec,s,R,c,AA life now⟩),⟨16,[],[(k:Int)],r.num::(k:Int)::sec⟩,true,0,hbR _ (by show sec.length<=_;omega),⟨yAp _,by simp,by simp;omega⟩,⟨λh=>absurd Z h,λ_=> .inl ⟨_,by rw[GQ,zZ8 Z,yBv];exact hn8,hT0 Z _,rfl,.inr ⟨rfl,zB,rfl,k,hk8,rfl⟩⟩⟩,?_,R1⟩;clear R1;generalize GQ r.tk k 0 ⟨true,List.replicate 8 0,s,R,c,AA life now⟩=l1 at *;generalize GQ r.tk k 0 ⟨true,sec,s,R,c,AA life now⟩=l2 at *;have c5:=zBp r hnum s R c life now sec hs k hk8 l1 l2 d1 d2;unfold SV at c5;clear hD hbR;rw[show yB ⟨16,[],[(k:Int)],r.num::(k:Int)::sec⟩= .agg [iA 16,.sl false [],.sl false [iA (k:Int)],zD yA (r.num::(k:Int)::sec)]from Z];generalize r.num::(k:Int)::sec=by1 at *;refine eM call220 λF hF=>?_
   refine yR (zt5 c1 m1 c3 c4 c5) ?_;exact zJ
 ·have hno:∀t,GQ r.tk k e t=[]:=λt=>by unfold GQ;rw[zZ7 he]
  have d1':=d1;rw[hno]at d1';have c5:=zBn r s R c life now e he k sec d1';unfold SV zFv at c5
  have R1:yP [uX r,yB ⟨2,tkn,[R,c,life],[]⟩,iA s,iA now,zD yA sec] [] (doR e) []:=by
   rcases hs with hs|hs
   ·have hs:=yBa (show sec.length=0 by omega);subst hs;exact BE r hn8 tkn R c life s now hs0 hs8 x1 x2 x3 x4 x5 hy k e e (.inr ⟨he,rfl⟩) _ k1 m2 k4 e1 kb
   ·obtain⟨d2,e2⟩:=hD sec hs;have R1:=BF r hn8 tkn R c life s now sec hs hs0 hs8 x1 x2 x3 x4 x5 hy k e _ k1 m2 k4 e2 kb;rw[zZ7 he]at R1;exact R1
  refine .bad e he ?_ R1;clear R1 hD hbR hno e1 d1 d1';rw[dJ]
  rcases hs with hs|hs
  all_goals
   refine eM call220 λF hF=>?_
   refine yR (zt5 c1 m1 c3 c4 c5) ?_;exact zJ
def zM7 (r:Rg) (m:Ms) (s now:Int) (sec:List Int) (c1:zN 235 [uX r] [] (bA true) []) (c2:zN 195 [yB m] [] (bA true) []) (c3:zN 236 [zD yV r.tk,iA s] [] (bA true) []) (c4:zN 173 [uX r] [] (uX r) []) (hs:(sec.length:Int)=0∨(sec.length:Int)=8)
  (h2:¬m.kind=2) (h3:¬m.kind=3) (h4:¬m.kind=4) (h5:¬m.kind=5):zN 220 [uX r,yB m,iA s,iA now,zD yA sec] [] (doR 1) []:=by
 rw[dJ];have hls:=zA yA sec
 rcases hs with hs|hs
 all_goals
  refine eM call220 λF hF=>?_
  refine yR (ZK c1 c2 c3 c4) ?_;exact zJ
def zFw {l:List Int} (h:l.length=1):∃a,l=[a]:=by
 match l,h with
 | [a],_=>exact⟨a,rfl⟩
def zZ5 {l:List Int} (h:l.length=2):∃a b,l=[a,b]:=by
 match l,h with
 | [a,b],_=>exact⟨a,b,rfl⟩
def zZ6 {l:List Int} (h:l.length=3):∃a b c,l=[a,b,c]:=by
 match l,h with
 | [a,b,c],_=>exact⟨a,b,c,rfl⟩
theorem zRv (r:Rg) (hv:r.vh.length<=1000) (m:Ms) (hm:MsB m) (s now:Int) (sec:List Int) (hs:sec.length<=1000):XL r m s now sec:=by
 have c1:=aM r zB;have k1:=dY r zB;obtain⟨b,c2,hb⟩:=zNa m hm;have c3:=VR r.tk s
 cases hg:gvF r with
 |false=>
  rw[hg]at c1 k1;exact .bad 1 xG (XK r m s now sec false b _ c1 c2 c3 (.inl Z) hs) (zM5 r m s now sec k1)
 |true=>
 have H:=zM4 hg;rw[hg]at c1 k1;by_cases hk:m.kind=2∨m.kind=3∨m.kind=4∨m.kind=5
 case neg=>
  have h2:¬m.kind=2:=λh=>hk (.inl h)
  have h3:¬m.kind=3:=λh=>hk (.inr (.inl h))
  have h4:¬m.kind=4:=λh=>hk (.inr (.inr (.inl h)))
  have h5:¬m.kind=5:=λh=>hk (.inr (.inr (.inr h)))
  refine .bad 1 xG ?_ (zM6 r m s now sec k1 h2 h3 h4 h5)
  cases b with
  |false=>exact XK r m s now sec true false _ c1 c2 c3 (.inr (.inl Z)) hs
  |true=>
  cases hu:gX r.tk s with
  |false=>exact XK r m s now sec true true _ c1 c2 c3 (.inr (.inr (.inl hu))) hs
  |true=>
  rw[hu]at c3;by_cases hsl:(sec.length:Int)=0∨(sec.length:Int)=8
  ·exact zM7 r m s now sec c1 c2 c3 (fU r H.b) hsl h2 h3 h4 h5
  ·exact XK r m s now sec true true true c1 c2 c3 (.inr (.inr (.inr ⟨λh=>hsl (.inl h),λh=>hsl (.inr h)⟩))) hs
 obtain⟨f,hf⟩:∃f,kdP m.kind f:=by
  unfold kdP
  rcases hk with h|h|h|h
  ·exact⟨3,.inl ⟨h,rfl⟩⟩
  ·exact⟨1,.inr (.inl ⟨h,rfl⟩)⟩
  ·exact⟨2,.inr (.inr (.inl ⟨h,rfl⟩))⟩
  ·exact⟨1,.inr (.inr (.inr ⟨h,rfl⟩))⟩
 obtain⟨b',k2,hb'⟩:=zFx m hm f hf
 have hbb:b'=b:=by
  have h1:=hb f hf
  cases b<;>cases b'<;>simp_all
 subst hbb;have h1:=hb f hf
 cases b' with
 |false=>exact .bad 1 xG (XK r m s now sec true false _ c1 c2 c3 (.inr (.inl Z)) hs) (OT r m s now sec H.n8 false k1 k2 hk (.inl Z) hs)
 |true=>
 cases hu:gX r.tk s with
 |false=>exact .bad 1 xG (XK r m s now sec true true _ c1 c2 c3 (.inr (.inr (.inl hu))) hs) (OT r m s now sec H.n8 true k1 k2 hk (.inr (.inl hu)) hs)
 |true=>
 by_cases hsl:(sec.length:Int)=0∨(sec.length:Int)=8
 case neg=>
  have hq:¬(sec.length:Int)=0/\¬(sec.length:Int)=8:=⟨λh=>hsl (.inl h),λh=>hsl (.inr h)⟩;exact .bad 1 xG (XK r m s now sec true true _ c1 c2 c3 (.inr (.inr (.inr hq))) hs) (OT r m s now sec H.n8 true k1 k2 hk (.inr (.inr hq)) hs)
 obtain⟨_,hd,hal,_⟩:=h1.1 Z;obtain⟨mk,tkn,ar,da⟩:=m;dsimp only at hd hal hf;subst hd
 rcases hf with⟨rfl,rfl⟩|⟨rfl,rfl⟩|⟨rfl,rfl⟩|⟨rfl,rfl⟩
 ·obtain⟨x,y,z,rfl⟩:=zZ6 hal;exact do2 r hg tkn x y z s now sec hu hsl c2 k2
 ·obtain⟨x,rfl⟩:=zFw hal;exact do3 r hg tkn x s now sec hu hsl c2 k2
 ·obtain⟨x,y,rfl⟩:=zZ5 hal;exact do4 r hg tkn x y s now sec hu hsl c2 k2
 ·obtain⟨x,rfl⟩:=zFw hal;exact do5 r hg tkn x s now sec hu hsl c2 k2
end Av
end Go.Proofs.YteajjdidebfcjaaGreat
