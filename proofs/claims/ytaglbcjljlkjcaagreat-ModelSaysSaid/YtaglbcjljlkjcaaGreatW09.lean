/- Part 9. -/
import Derived.Test.YtaglbcjljlkjcaaGreatW08
import Derived.WalkKit
import Derived.ProofKit
namespace Go.Proofs.YtaglbcjljlkjcaaGreat.Av
open Tryz
set_option linter.all false
set_option maxRecDepth 4000
set_option maxHeartbeats 1000000
open List renaming length->ln,replicate->pb,range->pi,getD->py
open Inhabited renaming default->dd
variable {s t:Int}{k:IntKind}{l:List Tk}{n:Nat}{w:World}
def ZX (l:List Tk):Nat->Int->List Int
 |0,_=>[]
 |n+1,s=>bif jW l s then s::ZX l n (l.getD s.toNat dd).par else []
def eU (l:List Tk) (k:Nat) (a:Int):ZX l (k+1) a=bif jW l a then a::ZX l k (l.getD a.toNat dd).par else []:=rfl
theorem ZY (h:jW l s=true):0<=s/\s<ln l:=by grind [jW]
theorem Ld :∀(n:Nat) (s x:Int),x∈ZX l n s->jW l x=true
 |0,s,x,h=>by simp[ZX]at h
 | n+1,s,x,h=>by
  unfold ZX at h
  cases u:jW l s<;>rw[u]at h
  .simp at h
  .rw[zB6,zCf]at h
   rcases h with rfl|h
   .exact u
   .exact Ld n _ x h
def bp (l:List Tk) (s:Int):List (Nat×xW):=[(1003,.box [iA s]),(1004,.box [zE yP l])]
def Wy (l:List Tk) (s:Int):zN 263 [zE yP l,iA s] [] (.fn 302 [.ptr 1003 0 0,.ptr 1004 0 0]) (bp l s):=by
 refine eM call263 λF hF=>?_
 repeat' (first|(apply zG;first|refine uU (dI (v:=AV.sl _ _) 1004 Z Z) Z Z Z ?_|refine uU (dI (v:=AV.s _) 1003 Z Z) Z Z Z ?_|refine uL tok Z Z ?_|apply kP)|(first|apply xY|apply xR|refine vZ Z ?_|refine yR Z ?_|refine yD Z ?_|refine xZ Z (λhc=>?_) λhc=>?_|apply xJ|apply xL|apply xQ|apply xC))
 exact zP [1003,1004] Z Z Z Z
def np (l:List Tk) (s:Int):TL prog 302 [.ptr 1003 0 0,.ptr 1004 0 0] (bp l s) ((ZX l 8 s).map λx=>[iA x]):=by
 have hl:=zA yP l;refine VN func302 Z (λargs w=>call302 args w) Z Z Z (λF y I z G=>?_);unfold bp;refine WW ?_;refine yU (8) [1003,1004] [1003,1004] [0,2] [4,6,1000000,0,2] Z (λi T U L=>∃(a:Int) (f4:List Int),(ZX l 8 s=f4++ZX l (8-i) a/\f4.length=i)/\L=⟨(4,iA a)::(6,iA i)::(1000000,.gh i)::T,U⟩) (Lp ?_ ?_ ?_)
 .exact⟨s,[],⟨rfl,rfl⟩,rfl⟩
 .rintro i st hi ⟨a,f4,⟨hp,hpl⟩,rfl⟩;have c:=Pc l a;obtain⟨k,hk⟩:∃k,8-i=k+1:=⟨7-i,zB⟩;rw[hk,eU l k a]at hp
  cases C:jW l a<;>rw[C]at c hp
  .rw[zCt,zBn]at hp;refine zS c ?_;exact TM Z (.inl (by rw[zAr,hp,hpl]))
  .rw[zB6]at hp;obtain⟨E,h1⟩:=ZY C;have M:=yE yP l a E h1;have u:((ZX l 8 s).map λx=>[iA x])[i]? =some [iA a]:=by rw[hp];simp[<-hpl]
   have B:i<((ZX l 8 s).map λx=>[iA x]).length:=(zBj.1 u).1;generalize ((ZX l 8 s).map λx=>[iA x])=xs at *;have A:ZX l 8 s=(f4++[a])++ZX l (8-(i+1)) (l.getD a.toNat dd).par:=by rw[hp,show 8-(i+1)=k by omega];simp
   generalize l.getD a.toNat dd=t at*
   (repeat' (first|refine uT ?_|apply yW|apply xI|intro hc|(apply zG;apply xP;first|(first|(refine vG 303 ?_;first|refine wM (zL (c) Z Z Z Z Z) Z ?_|refine uU (zL (c) Z Z Z Z Z) Z Z Z ?_|refine aF (zL (c) Z Z Z Z Z) Z Z Z ?_))|(apply Of;refine GY z G Z Z u Z Z Z ?_ ?_))|(apply zG;first|refine SM ?_)|fail))
   .exact⟨t.par,f4++[a],⟨A,by simp[hpl]⟩,rfl⟩
   .exact TM Z (.inr zB)
 .rintro st ⟨a,f4,⟨hp,hpl⟩,rfl⟩;rw[show ZX l (8-8) a=[]from rfl,zBn]at hp;refine WW ?_;exact ZT rfl (.inl (by rw[zAr,hp,hpl]))
def lj (l:List Tk) (s u:Int):Bool:=(ZX l 8 s).any λa=>a==u
def mp (l:List Tk) (s u:Int):zN 377 [zE yP l,iA s,iA u] [] (bA (lj l s u)) []:=by
 have c:=Wy l s;unfold bp at c;refine eM call377 λF hF=>?_
 refine zS c ?_;refine qO hF (np l s) Z [5,6] [5,6] Z Z Z Z Z Z Z Z Z (λi ys h=>?_) (λ_=>[(5,.box [iA u]),(6,.box [.s (.bool false)])]) (λi=>∀x∈(ZX l 8 s).take i,x≠u) (T:=[(5,.ptr 5 0 0),(6,.ptr 6 0 0)]) Z zV (λi ys y B E I h1 h2=>?_) (λE=>?_)
 .rw[zAz,zBa]at h;obtain⟨x,_,rfl⟩:=h;rfl
 .rw[zAz,zBa]at B;obtain⟨x,hx,rfl⟩:=B
  show uD _ I _ _ ⟨[(11,iA x),(5,.ptr 5 0 0),(6,.ptr 6 0 0)],[(5,.box [iA u]),(6,.box [.s (.bool false)])]⟩ _
  have A:x∈ZX l 8 s:=zCc hx;refine WW ?_;refine⟨rfl,λL M O=>?_⟩;by_cases G:x=u
  .have hd:lj l s u=true:=zCi.2 ⟨x,A,by simpa using G⟩;rw[hd];exact ly
  ·(refine WW ?_)
   refine⟨rfl,λz C=>?_⟩;rw[zDr,hx]at C;simp only[Option.toList_some,zBc,zBl]at C
   rcases C with C|rfl
   .exact E z C
   .exact G
 .rw[zAr,zAt]at E;have hd:lj l s u=false:=zDa.2 λx hx=>by simpa using E x hx
  rw[hd];exact ly
def oa (l:List Tk) (f3:Int) (j:Nat):Tk:=if(ZX l 8 j).any (λa=>qb (l.getD a.toNat dd) f3)=true then ab else l.getD j dd
def QX (l:List Tk) (f3:Int) (s:Nat):List Tk:=(pi (ln l)).map λj=>if j<s then oa l f3 j else l.getD j dd
def ZZ (l:List Tk) (f3:Int):List Tk:=(pi (ln l)).map (oa l f3)
def FQ (l:List Tk) (f3:Int) (s:Nat):(QX l f3 s).length=ln l:=by simp[QX]
theorem tp (l:List Tk) (f3:Int):QX l f3 0=l:=by apply zB0<;>grind [QX,List.getElem?_range,py,List.getElem?_eq_none]
theorem Rv (l:List Tk) (f3:Int):QX l f3 (ln l)=ZZ l f3:=by grind [QX,ZZ,List.map_congr_left]
theorem Zp (l:List Tk) (f3:Int) (s:Nat) (h:s<ln l):(QX l f3 s)[s]? =some (l.getD s dd):=by grind [QX]
theorem Yp (l:List Tk) (f3:Int) (s:Nat):QX l f3 (s+1)=(QX l f3 s).set s (oa l f3 s):=by apply zB0<;>grind [QX,oa,List.getElem?_range,List.getElem?_eq_none]
theorem Xp (l:List Tk) (hb:JU l) (f3:Int):zN 220 [zE yP l,iA f3] [] (zE yP (ZZ l f3)) []:=by
 have c:=VM l hb;have hn:=hb.n;have M:=zA yP l;refine eM call220 λF hF=>?_
 refine zS c ?_;refine zO ((l.map yP).length) [1001,2,3,5] [2,3,5] [2,3,5,11,18] [12,2,3,5,11,18] Z (λi T U=>⟨(12,iA i)::T,(1001,.arr 6 ((QX l f3 i).map yP) false)::U⟩) ?_;(conv=>whnf);refine⟨by(rw[tp];rfl),?_,?_⟩
 .intro i hi;have hi':i<ln l:=by omega
  have O:=Wy l i;unfold bp at O;have hy:((QX l f3 i).map yP)[i]? =some (yP (l.getD i dd)):=by rw[zAz,Zp l f3 i hi'];rfl
  have R:=Yp l f3 i;have L:=Oc;have ac:i<((QX l f3 i).map yP).length:=by rw[zAr,FQ];exact hi'
  refine zS O ?_
  refine qO hF (np l i) Z [2,3,5,6,1001] [2,3,5,6,11,12] Z Z Z Z Z Z Z Z Z (λk ys h=>?_) (λ_=>[(2,.box [zE yP l]),(3,.box [iA f3]),(5,.box [.ref 1001 0 (l.map yP).length]),(6,.box [iA i]),(1001,.arr 6 ((QX l f3 i).map yP) false)]) (λk=>∀x∈(ZX l 8 i).take k,qb (l.getD x.toNat dd) f3=false)
   (T:=[(2,.ptr 2 0 0),(3,.ptr 3 0 0),(5,.ptr 5 0 0),(6,.ptr 6 0 0),(11,iA (l.map yP).length),(12,iA i)]) Z zV (λk ys y A C S h1 h2=>?_) (λC=>?_)
  .rw[zAz,zBa]at h;obtain⟨x,_,rfl⟩:=h;rfl
  .rw[zAz,zBa]at A;obtain⟨x,hx,rfl⟩:=A
   show uD _ S _ _ ⟨[(18,iA x),(2,.ptr 2 0 0),(3,.ptr 3 0 0),(5,.ptr 5 0 0),(6,.ptr 6 0 0),(11,iA (l.map yP).length),(12,iA i)],[(2,.box [zE yP l]),(3,.box [iA f3]),(5,.box [.ref 1001 0 (l.map yP).length]),(6,.box [iA i]),(1001,.arr 6 ((QX l f3 i).map yP) false)]⟩ _
   have u:x∈ZX l 8 i:=zCc hx;obtain⟨V,W⟩:=ZY (Ld _ _ _ u);have ag:=yE yP l x V W;have E:=JT (l.getD x.toNat dd) f3;refine WW ?_;refine⟨rfl,λF2 g1 g2=>?_⟩
   cases I:qb (l.getD x.toNat dd) f3<;>rw[I]at E
   ·(refine zS E ?_)
    refine⟨rfl,λz B=>?_⟩;rw[zDr,hx]at B;simp only[Option.toList_some,zBc,zBl]at B
    rcases B with B|rfl
    .exact C z B
    .exact I
   .have G:(QX l f3 (i+1)).map yP=((QX l f3 i).map yP).set i (yP ab):=by
     rw[R,oa,f5 (zCi.2 ⟨x,u,I⟩),zCe]
    generalize (QX l f3 i).map yP=xs,(QX l f3 (i+1)).map yP=ys at *;subst G;refine yG (xV E L) ?_;rfl
  .rw[zAr,zAt]at C
   have G:(QX l f3 (i+1)).map yP=(QX l f3 i).map yP:=by
    rw[R,oa,Os (by simpa using C)]
    congr 1
    have:=Zp l f3 i hi';rw[zBj]at this;obtain⟨h,e⟩:=this;rw[<-e,zGa]
   generalize (QX l f3 i).map yP=xs,(QX l f3 (i+1)).map yP=ys at *;subst G;refine WW ?_;rfl
 .have Y:(l.map yP).length=((QX l f3 (ln l)).map yP).length:=by simp[FQ]
  rw[<-Rv];rw[M]at *; refine WW ?_;exact zH [] Z Z (zBb (AV.sl false) (zA1 (by simp[FQ]))) Z
def Bf (a:Ag):List Tk:=⟨true,a.sec,-1,a.rights,a.cls,0⟩::pb 7 ab
def zT:AV:= .agg [.s (.bool false),.s (.slice none 0 0),.s (.int .i64 0),.s (.int .i64 0),.s (.int .i64 0),.s (.int .i64 0)]
def ib (i:Nat):List AV:=pb i (yP ab)++pb (8-i) zT
theorem F3 (i:Nat) (h:i<8):(ib i)[i]? =some zT:=by grind [ib,zT]
def Qv (i:Nat) (h:i<8):(ib i).set i (yP ab)=ib (i+1):=by
 unfold ib;rw[show 8-i=(8-(i+1))+1 by omega,zFi (n:=8-(i+1)),zEq _ _ zV,zCq,zC7,zFt,zEy (n:=i),zBh];rfl
def D3 (a:Ag) (C:ln a.sec<=1000000):zN 206 [uI a] [] (zE yP (Bf a)) []:=by
 have A:=Oc;have cs:=kS a.sec zB;obtain⟨N,hN⟩:∃N:Nat,N=8:=⟨8,rfl⟩;refine eM call206 λF hF=>?_
 refine WW ?_;refine zO (N) [5,1] [1] [1] [8,7,3,1] Z (λi T U=>⟨(8,iA i)::(7,iA N)::(3,.ref 5 0 N)::T,(5,.arr 6 (ib i) false)::U⟩) ?_;(conv=>whnf);refine⟨by(rw[hN];rfl),?_,?_⟩
 .intro i hi;have z:=F3 i zB;have e:=Qv i zB;have u:(ib i).length=8:=by unfold ib;simp;omega
  generalize ib i=xs,ib (i+1)=ys at *;subst e;unfold zT at z;refine zS A ?_;rfl
 .rw[show ib N=ib 8 by rw[hN]];have z:(ib 8)[0]? =some (yP ab):=rfl;have B:(ib 8).set 0 (yP ⟨true,a.sec,-1,a.rights,a.cls,0⟩)=(Bf a).map yP:=rfl;have u:(ib 8).length=8:=rfl;generalize ib 8=xs at *;unfold yP at z;refine zS cs ?_;exact zH [] Z Z (zBb (AV.sl false) ((zA1 qA).trans B)) Z
def QY (n:Int) (a:Ag):Rg:=⟨n,a,Bf a,[],⟨a.burst,a.rate,a.burst⟩⟩
def C3 (n:Int) (a:Ag) (u:ln a.sec<=1000000) (hl:ln a.lim<=1000000):zN 151 [iA n,uI a] [] (uQ (QY n a)) []:=by
 have z:=AI a u hl;have A:=D3 a u;have B:=Z1 a.rate a.burst;unfold QY;generalize Bf a=C at *;refine eM call151 λF hF=>?_
 exact mx (qM z A B)
def YA (g s:Int) (l:List Int) (hl:ln l<=1000000) (z:0<=g) (A:g<256) (B:0<=s) (C:s<256):zN 66 [iA g,iA s,zE yA l] [] (zE yA (g::s::l)) []:=by
 have u:=zA yA l;refine eM call66 λF hF=>?_
 refine WW ?_;exact zH [] Z Z (zBb (AV.sl false) (zA1 zV)) Z
def A3 (a b:List Int):zN 341 [zE yA a,zE yA b] [] (bA (Dh a b)) []:=by
 refine eM call341 λF hF=>?_
 exact ly
def Wi (l:List Tk) (b:List Int):Tk:=l.getD (b.getD 1 dd).toNat dd
def IH (l:List Tk) (g:Int) (b:List Int) (k f3:Int):Bool:=decide ((ln b:Int)=10/\b.getD 0 dd=g)&&jW l (b.getD 1 dd)&&(Dh (b.drop 2) (Wi l b).sec&& !qb (Wi l b) f3&&bj (Wi l b).rights k)
def Pv (l:List Tk) (g:Int) (b:List Int) (k f3:Int) (hb:BY b):zN 305 [zE yP l,iA g,zE yA b,iA k,iA f3] [] (.tup [iA (if IH l g b k f3=true then b.getD 1 dd else 0),iA (if IH l g b k f3=true then 0 else 9)]) []:=by
 have L:=zA yA b;have M:=zA yP l;by_cases h1:(ln b:Int)=10
 case neg=>
  have e:IH l g b k f3=false:=by unfold IH;rw[zAs (λh=>h1 h.1)];rfl
  rw[e];refine eM call305 λF hF=>?_
  exact ly
 have B:=yE yA b 0 zB zB;have C:=yE yA b 1 zB zB;have Y:0<=b.getD 0 dd/\b.getD 0 dd<256:=hb _ Re;have b1:0<=b.getD 1 dd/\b.getD 1 dd<256:=hb _ Re
 change (b.map yA)[0]? =some (yA (b.getD 0 dd))at B
 change (b.map yA)[1]? =some (yA (b.getD 1 dd))at C
 unfold IH Wi;generalize b.getD 0 dd=W,b.getD 1 dd=z at *;by_cases h2:W=g
 case neg=>
  rw[zAs (λh=>h2 h.2)];refine eM call305 λF hF=>?_
  exact ly
 rw[zAu ⟨h1,h2⟩];have u:=Pc l z;cases A:jW l z
 .rw[A]at u;refine eM call305 λF hF=>?_
  exact ng u
 rw[A]at u;obtain⟨U,V⟩:=ZY A;have O:=yE yP l z U V;generalize l.getD z.toNat dd=t at *;have E:=A3 (b.drop 2) t.sec;have I:=JT t f3;have G:=Jh t.rights k;generalize Dh (b.drop 2) t.sec=q1,qb t f3=R,bj t.rights k=S at *
 cases q1<;>cases R<;>cases S<;>((refine eM call305 λF hF=>?_);exact mx (cD u E I G))
def rgZ:Rg:=⟨0,⟨[],0,0,[],0,0,0,0⟩,[],[],⟨0,0,0⟩⟩
def TR (k:Int):Bool:=decide (2<=k/\k<=8)
def Af (r:Rg) (m:Ms) (f3:Int):Int:=if IH r.tk r.num m.tok m.kind f3=true then(if TR m.kind=true/\r.bk.level<=0 then 13 else 0)else 9
def Wp (r:Rg) (m:Ms) (f3:Int):Rg:=if Af r m f3=0 then(if TR m.kind=true then⟨r.num,r.ag,r.tk,r.vh,RD r.bk⟩else r)else rgZ
def Vy (r:Rg) (m:Ms) (f3:Int):Int:=if Af r m f3=0 then m.tok.getD 1 dd else 0
def j4 (r:Rg) (m:Ms) (f3:Int) (G:GR r) (E:BY m.tok) (hl:r.bk.level<=1000000):zN 268 [uQ r,zW m,iA f3] [] (.tup [uQ (Wp r m f3),iA (Vy r m f3),iA (Af r m f3)]) []:=by
 have u:=Pv r.tk r.num m.tok m.kind f3 E;have A:=cC r G;have z:=Vu r.bk zB;unfold Wp Vy Af
 cases B:IH r.tk r.num m.tok m.kind f3<;>rw[B]at u
 ·(refine eM call268 λF hF=>?_)
  exact ng u
 .generalize m.tok.getD 1 dd=C at *;cases hk:TR m.kind
  .have hk':¬(2<=m.kind/\m.kind<=8):=zE4 hk;refine eM call268 λF hF=>?_
   refine yG (xV u A) (I2 (λhc=>?_) λhc=>?_)
   all_goals (first|exact MH|exact zI)
  .have hk':2<=m.kind/\m.kind<=8:=zEj hk;by_cases hv:r.bk.level<=0
   .rw[zAs zB]at z;simp only[hv,and_self,zE0];refine eM call268 λF hF=>?_
    exact mx (qM u A z)
   .rw[zAu zB]at z;simp only[hv,zE8,zFk,zE0];generalize hb:RD r.bk=I at *;refine eM call268 λF hF=>?_
    exact mx (qM u A z)
def o4 (r:Rg) (f3:Int):Rg:=⟨r.num,r.ag,ZZ r.tk f3,r.vh,s7 r.bk⟩
def Ov (r:Rg) (f3:Int) (u:GR r) (hl: -1000000<=r.bk.level+r.bk.rate/\r.bk.level+r.bk.rate<=1000000):zN 174 [uQ r,iA f3] [] (uQ (o4 r f3)) []:=by
 have z:=cC r u;have A:=Xp r.tk u.tk f3;have B:=Wu r.bk zB;unfold o4;generalize ZZ r.tk f3=E,s7 r.bk=C at *;refine eM call174 λF hF=>?_
 exact mx (qM z A B)
def MY (l:List Tk) (hb:JU l):zN 236 [zE yP l] [] (.ref 1001 0 (l.map yP).length) [(1001,.arr 6 (l.map yP) false)]:=by
 have C:=hb.n;have u:=zA yP l;refine eM call236 λF hF=>?_
 (repeat' (first|refine uT ?_|apply yW|apply xI|intro hc|fail))
 refine zQ 3 1001 6 Z Z Z ?_;refine zU (l) [1001] [] [6,7] [3,8,6,7] Z (λi f4 T U=>⟨(3,.ref 1001 0 (f4.map yP).length)::(8,iA i)::T,(1001,.arr 6 (f4.map yP) true)::U⟩) (Lq ?_ ?_)
 .intro i f4 x post hx hi;have G:=yJ yP hx hi;have z:=zX hx hi;have A:(f4.map yP).length=i:=by rw[zAr,hi]
  have E:=hb.s x (xA hx);have B:=zA yA x.sec;have e:(f4++[x]).map yP=f4.map yP++[yP x]:=by simp
  clear hx;rw[e];generalize f4.map yP=xs,l.map yP=I at *;refine WL ?_;rfl
 ·(repeat' (first|refine Zf ?_|apply yW|apply xI|intro hc|fail))
  refine kW [1001] [2] Z Z ?_;refine kF 1001 [2] Z Z Z Z Z (xL ?_);exact zP [1001] Z Z Z Z
def Vp (l:List Tk) (hb:JU l):zN 236 [zE yP l] [] (zE yP l) []:=by
 have C:=hb.n;have u:=zA yP l;refine eM call236 λF hF=>?_
 (repeat' (first|refine uT ?_|apply yW|apply xI|intro hc|fail))
 refine zQ 3 1001 6 Z Z Z ?_;refine zU (l) [1001] [] [6,7] [3,8,6,7] Z (λi f4 T U=>⟨(3,.ref 1001 0 (f4.map yP).length)::(8,iA i)::T,(1001,.arr 6 (f4.map yP) true)::U⟩) (Lq ?_ ?_)
 .intro i f4 x post hx hi;have G:=yJ yP hx hi;have z:=zX hx hi;have A:(f4.map yP).length=i:=by rw[zAr,hi]
  have E:=hb.s x (xA hx);have B:=zA yA x.sec;have e:(f4++[x]).map yP=f4.map yP++[yP x]:=by simp
  clear hx;rw[e];generalize f4.map yP=xs,l.map yP=I at *;refine WL ?_;rfl
 ·(refine WL ?_)
  exact zH [] Z Z (fY _ _) Z
def eI (r:Rg) (hb:GR r):zN 186 [uQ r] [] (uQ r) []:=by
 have c:=Vp r.tk hb.tk;have h1:=hb.s;have h2:=hb.l;have u:=hb.v;have z:=zA yA r.ag.sec;have A:=zA iA r.ag.lim;have B:=zA vB r.vh;refine eM call186 λF hF=>?_
 exact oj c
def Vi (a:Ag) (i:Nat):List AV:=yP ⟨true,a.sec,-1,a.rights,a.cls,0⟩::pb i (yP ab)
def Nv (a:Ag) (A:ln a.sec<=1000000):zN 212 [uI a] [] (zE yP (Bf a)) []:=by
 have u:=zA yA a.sec;obtain⟨N,hN⟩:∃N:Nat,N=7:=⟨7,rfl⟩;refine eM call212 λF hF=>?_
 (repeat' (first|refine jX ?_|apply yW|apply xI|intro hc|(apply zG;first|(apply yH;refine uU (nw:=[1001]) (yV tok 1001 (xs:=[.agg [.s (.bool true),.sl false (a.sec.map yA),.s (.int .i64 (-1)),.s (.int .i64 a.rights),.s (.int .i64 a.cls),.s (.int .i64 0)]]) Z Z Z Z Z Z Z Z Z) Z Z Z ?_)|refine SL ?_)|refine SB ?_|fail))
 refine vO 1001 Z ?_;refine zO (N) [1001] [] [] [3] Z (λi T U=>⟨(3,.ref 1001 0 (Vi a i).length)::T,(1001,.arr 6 (Vi a i) true)::U⟩) (Lq ?_ ?_)
 .intro i hi;have hl:(Vi a i).length=i+1:=by simp[Vi]
  have e:Vi a (i+1)=Vi a i++[yP ab]:=by unfold Vi;rw[zEy];rfl
  have hh:∀y,(Vi a i)[0]? =some y->ln y.cells=6:=λy z=>by cases z;rfl
  rw[e];generalize Vi a i=xs at*
  (repeat' (first|refine jX ?_|apply yW|apply xI|intro hc|(apply zG;first|(apply yH;refine ZU 17 Z Z Z ?_;refine vC tok Z Z ?_))|refine SB ?_|fail))
  rfl
 .have hl:(Vi a N).length=N+1:=by simp[Vi]
  rw[show Bf a=Bf a from Z];have e:(Vi a N).take (Vi a N).length=(Bf a).map yP:=by rw[zAt,hN];rfl
  refine WL ?_;exact zH [] Z Z (zBb (AV.sl false) e) Z
def Mv (n:Int) (a:Ag) (z:ln a.sec<=1000000) (hl:ln a.lim<=1000000):zN 157 [iA n,uI a] [] (uQ (QY n a)) []:=by
 have A:=Nv a z;have B:=Xu a.rate a.burst
 have hb:GR (QY n a):=⟨⟨by simp[QY,Bf],λt u=>by
  simp only[QY,Bf,zCf]at u
  rcases u with rfl|u
  .exact z
  .rw[List.eq_of_mem_replicate u];simp[ab]⟩,z,hl,by simp[QY]⟩
 have C:=eI (QY n a) hb;unfold QY at *;generalize Bf a=E at *;refine eM call157 λF hF=>?_
 exact mx (qM A B C)
def sa (t:Tk):Bool:=decide ((ln t.sec:Int)=8/\0<=t.cls/\t.cls<=3/\0<=t.til/\t.til<=2147483648)
def Er (t:Tk):Bool:=PV t.rights&&sa t
def FR (t:Tk):zN 389 [yP t] [] (bA (Er t)) []:=by
 have c:=XB t.rights;have hl:=zA yA t.sec;unfold Er;generalize PV t.rights=v at *;cases v
 .rw[zBt];refine eM call389 λF hF=>?_
  refine zS c (I2 (λhc=>?_) λhc=>?_)
  all_goals exact zI
 .rw[zA3]
  (cases hb:sa t with|false=>((refine eM call389 λF hF=>?_);((refine zS c (I5 (λhc hc hc hc=>?_) (λhc hc hc hc=>?_) (λhc hc hc=>?_) (λhc hc=>?_) λhc=>?_)));all_goals (first|exact zI|(simp only[sa,zA4]at hb;first|exact MH|exact PX)))|true=>(simp only[sa,zAx]at hb;(refine eM call389 λF hF=>?_);((refine zS c ?_));all_goals (first|exact zI|exact MH|exact PX)))
def KH (t:Tk):Bool:=decide ((ln t.sec:Int)=0/\t.par= -1/\t.rights=0/\t.cls=0/\t.til=0)
def dO (u:Bool) (t:Tk):AV:= .agg [bA u,zE yA t.sec,iA t.par,iA t.rights,iA t.cls,iA t.til]
def Up (t:Tk):zN 390 [dO false t] [] (bA (KH t)) []:=by
 have hl:=zA yA t.sec
 (cases hb:KH t with|false=>((refine eM call390 λF hF=>?_);((refine WW (I5 (λhc hc hc hc=>?_) (λhc hc hc hc=>?_) (λhc hc hc=>?_) (λhc hc=>?_) λhc=>?_)));all_goals (first|exact zI|(simp only[KH,zA4]at hb;first|exact MH|exact PX)))|true=>(simp only[KH,zAx]at hb;(refine eM call390 λF hF=>?_);((refine WW ?_));all_goals (first|exact zI|exact MH|exact PX)))
def MZ (l:List Tk) (s:Int):Bool:=if(l.getD s.toNat dd).used=true then Er (l.getD s.toNat dd)&&lj l s 0&&(Rc (l.getD s.toNat dd).rights (l.getD (l.getD s.toNat dd).par.toNat dd).rights&&decide ((l.getD s.toNat dd).cls<=(l.getD (l.getD s.toNat dd).par.toNat dd).cls)&& !Jr (l.getD s.toNat dd).til (l.getD (l.getD s.toNat dd).par.toNat dd).til)
 else KH (l.getD s.toNat dd)
def II (t:Tk):Bool:=t.used&&decide (t.par= -1/\t.til=0)&&Er t
def QZ (l:List Tk):Bool:=decide ((ln l:Int)=8)&&(II (l.getD 0 dd)&&(pi 7).all λi=>MZ l ((i:Int)+1))
theorem Z4 {i:Nat} (hi:i<7) (h:MZ l ((i:Int)+1)=false):QZ l=false:=by grind [MZ,QZ]
theorem Lv (h:lj l s 0=true) (u:s≠0):jW l (l.getD s.toNat dd).par=true:=by
 unfold lj at h;rw[eU l 7 s]at h
 cases z:jW l s<;>rw[z]at h
 .simp at h
 .rw[zB6,zGd]at h;have:(s==0)=false:=by simpa using u
  rw[this,zC5,eU l 6]at h
  grind
theorem TU (l:List Tk):zN 372 [zE yP l] [] (bA (QZ l)) []:=by
 have ag:=zA yP l;by_cases h8:(ln l:Int)=8
 case neg=>
  rw[show QZ l=false by unfold QZ;rw[zAs h8];rfl];refine eM call372 λF hF=>?_
  exact ly
 have I:=yE yP l 0 zB zB
 change (l.map yP)[0]? =some (yP (l.getD 0 dd))at I
 cases L:II (l.getD 0 dd)
 .rw [show QZ l=false by unfold QZ;rw[L];simp];have c:=FR (l.getD 0 dd);unfold II at L;generalize l.getD 0 dd=t at *;generalize Er t=q at *;cases B:t.used
  .rw[show yP t=dO false t by unfold yP dO;rw[B]]at *; unfold dO at *;refine eM call372 λF hF=>?_
   exact ng c
  .rw[show yP t=dO true t by unfold yP dO;rw[B]]at *; unfold dO at *;by_cases h1:t.par= -1
   .by_cases h2:t.til=0
    .rw[B,zAu ⟨h1,h2⟩,zA3,zA3]at L;subst L;refine eM call372 λF hF=>?_
     exact ng c
    ·(refine eM call372 λF hF=>?_)
     exact ng c
   ·(refine eM call372 λF hF=>?_)
    exact ng c
 have M:=FR (l.getD 0 dd);have G:=L;unfold II at G;simp only[zA2,zAx]at G;obtain⟨⟨B,h1,h2⟩,h3⟩:=G;have A:=I;rw[h3]at M;rw[show yP (l.getD 0 dd)=dO true (l.getD 0 dd) by unfold yP dO;rw[B]]at A M;unfold dO at A M;clear I;generalize ar:l.getD 0 dd=t0 at A M h1 h2;refine eM call372 λF hF=>?_
 refine zS M ?_;refine yU (7) [] [] [0] [4,0] Z (λi T U zs=>(∀s:Nat,s<i->MZ l ((s:Int)+1)=true)/\zs=⟨(4,iA ((i:Int)+1))::T,U⟩) (Lp ?_ ?_ ?_)
 .exact⟨λs hs=>absurd hs (zCm _),rfl⟩
 .rintro i st hi ⟨hp,rfl⟩
  have E:MZ l ((i:Int)+1)=true->∀s:Nat,s<i+1->MZ l ((s:Int)+1)=true:=λh s hs=>by
   by_cases ac:s=i
   .subst ac;exact h
   .exact hp s zB
  have z:=λh=>Z4 (l:=l) hi h
  have Y:=yE yP l ((i:Int)+1) zB zB;have C:=FR (l.getD ((i:Int)+1).toNat dd);have V:=Up (l.getD ((i:Int)+1).toNat dd);have O:=mp l ((i:Int)+1) 0;have S:=Lv (l:=l) (s:=(i:Int)+1);have u:MZ l ((i:Int)+1)=_:=rfl
  conv at u=>rhs;unfold MZ
  generalize l.getD ((i:Int)+1).toNat dd=t,MZ l ((i:Int)+1)=tk at *;cases B:t.used
  .rw[show yP t=dO false t by unfold yP dO;rw[B]]at Y;rw[B,Os zV]at u;rw[<-u]at V;unfold dO at Y V;cases tk
   .rw[z Z];exact ng V
   ·(refine zS V ?_)
    exact⟨E Z,by rw[zF2];rfl⟩
  .rw[show yP t=dO true t by unfold yP dO;rw[B]]at Y C;rw[B,f5 Z]at u;unfold dO at Y C;generalize Er t=q1 at *;generalize ap:lj l ((i:Int)+1) 0=q2 at *;cases q1
   .rw[zBt,zBt]at u;rw[z u];exact ng C
   cases q2
   .rw[zA3,zBt]at u;rw[z u];exact mx (xV C O)
   rw[zA3,zA3]at u;obtain⟨p0,p1⟩:=ZY (S Z zB);have au:=yE yP l t.par p0 p1;generalize l.getD t.par.toNat dd=p at *;have W:=AF t.rights p.rights;have c5:=nf t.til p.til;generalize Rc t.rights p.rights=q3,Jr t.til p.til=q4 at *;cases q3
   .rw[zBt,zBt]at u;rw[z u];exact mx (qM C O W)
   by_cases R:t.cls<=p.cls
   .rw[zAu R,zA3,zA3]at u;cases q4
    ·(refine yG (cD C O W c5) ?_)
     exact⟨E u,by rw[zF2];rfl⟩
    .rw[z u];exact mx (cD C O W c5)
   .rw[zAs R,zA3,zBt]at u;rw[z u];exact mx (cD C O W c5)
 .rintro st ⟨hp,rfl⟩
  rw[show QZ l=true by
   unfold QZ;rw[zAu h8,L,zA3,zA3]
   exact zA5.2 λi hi=>hp i (zBi.1 hi)]
  exact ly
def YB (l:List Tk):Nat->Int->Int->Bool
 |0,_,_=>false
 |n+1,f,t=>jW l f&&(f==t||YB l n (l.getD f.toNat dd).par t)
def LA (l:List Tk) (n:Nat) (f t:Int):YB l (n+1) f t=(jW l f&&(f==t||YB l n (l.getD f.toNat dd).par t)):=rfl
theorem Tp (l:List Tk) (t:Int):∀(n:Nat) (f:Int),YB l n f t=(ZX l n f).any λa=>a==t
 |0,_=>rfl
 |n+1,f=>by
  rw[LA,eU];cases jW l f
  .rfl
  .rw[zB6,zGd,Tp l t n,zA3]
def zg (l:List Tk) (f t:Int) (G:ln l<=1000000):zN 286 [zE yP l,iA f,iA t] [] (bA (YB l (ln l+1) f t)) []:=by
 have hl:=zA yP l;generalize C:YB l (ln l+1) f t=R;refine eM call286 λF hF=>?_
 refine WW ?_;refine yU (ln l+1) [] [] [0,2] [1,7,0,2] Z (λi T U E=>∃(a:Int),(R=YB l (ln l+1-i) a t)/\E=⟨(1,iA a)::(7,iA i)::T,U⟩) (Lp ?_ ?_ ?_)
 .exact⟨f,C.symm,rfl⟩
 .rintro i st hi ⟨a,hp,rfl⟩;obtain⟨k,hk⟩:∃k,ln l+1-i=k+1:=⟨ln l-i,zB⟩;rw[hk,LA l k a t]at hp;have hk':ln l+1-(i+1)=k:=by omega
  unfold jW at hp;by_cases A:0<=a
  .by_cases h1:a<ln l
   .have z:=yE yP l a A h1;rw[zAu ⟨A,h1⟩,zA3]at hp;generalize l.getD a.toNat dd=x at *;cases u:x.used
    .rw[u,zBt]at hp;rw[show yP x=dO false x by unfold yP dO;rw[u]]at z;unfold dO at z;rw[hp];exact ly
    .rw[u,zA3]at hp;rw[show yP x=dO true x by unfold yP dO;rw[u]]at z;unfold dO at z;by_cases B:a=t
     .rw[show(a==t)=true by simpa using B,zDe]at hp;rw[hp];exact ly
     .rw[show(a==t)=false by simpa using B,zC5]at hp;refine WW ?_;exact⟨x.par,by rw[hk'];exact hp,by rw[zF2];rfl⟩
   .rw[zAs zB]at hp;simp only[zBt]at hp;rw[hp];exact ly
  .rw[zAs zB]at hp;simp only[zBt]at hp;rw[hp];exact ly
 .rintro st ⟨a,hp,rfl⟩;rw[zC7]at hp;rw[hp];exact ly
def dH (l:List Tk) (s:Nat):Bool:=if(l.getD s dd).used=true then Er (l.getD s dd)&&YB l (ln l+1) s 0&&(decide (s=0)||(Rc (l.getD s dd).rights (l.getD (l.getD s dd).par.toNat dd).rights&&decide ((l.getD s dd).cls<=(l.getD (l.getD s dd).par.toNat dd).cls)&& !Jr (l.getD s dd).til (l.getD (l.getD s dd).par.toNat dd).til))
 else KH (l.getD s dd)
def YC (t:Tk):Bool:=t.used&&decide (t.par= -1/\t.til=0)
def aQ (l:List Tk):Bool:=decide ((ln l:Int)=8)&&(YC (l.getD 0 dd)&&(pi (ln l)).all λi=>dH l i)
theorem Kv {i:Nat} (hi:i<ln l) (h:dH l i=false):aQ l=false:=by grind [dH,aQ]
theorem Jv (h:YB l (n+1) s 0=true) (u:s≠0):jW l (l.getD s.toNat dd).par=true:=by
 rw[LA l n s 0]at h;have:(s==0)=false:=by simpa using u
 rw[this,zC5,zA2]at h
 cases n with
 |zero=>exact absurd h.2 (by simp[YB])
 |succ n=>
  grind [YB,jW]
theorem RP (l:List Tk):zN 363 [zE yP l] [] (bA (aQ l)) []:=by
 have ap:=zA yP l;by_cases h8:(ln l:Int)=8
 case neg=>
  rw[show aQ l=false by unfold aQ;rw[zAs h8];rfl];refine eM call363 λF hF=>?_
  exact ly
 have R:=yE yP l 0 zB zB
 change (l.map yP)[0]? =some (yP (l.getD 0 dd))at R
 cases M:YC (l.getD 0 dd)
 .rw [show aQ l=false by unfold aQ;rw[M];simp];unfold YC at M;generalize l.getD 0 dd=t at *;cases G:t.used
  .rw[show yP t=dO false t by unfold yP dO;rw[G]]at *; unfold dO at *;refine eM call363 λF hF=>?_
   exact ly
  .rw[show yP t=dO true t by unfold yP dO;rw[G]]at *; unfold dO at *;rw[G,zA3]at M;by_cases h1:t.par= -1
   .by_cases h2:t.til=0
    .rw[zAu ⟨h1,h2⟩]at M;cases M
    ·(refine eM call363 λF hF=>?_)
     exact ly
   ·(refine eM call363 λF hF=>?_)
    exact ly
 have O:=M;unfold YC at O;simp only[zA2,zAx]at O;obtain⟨G,h1,h2⟩:=O;have A:=R;rw[show yP (l.getD 0 dd)=dO true (l.getD 0 dd) by unfold yP dO;rw[G]]at A;unfold dO at A;clear R;generalize av:l.getD 0 dd=t0 at A h1 h2;refine eM call363 λF hF=>?_
 refine WW ?_;clear A;refine yU (ln l) [] [] [0,30,31] [32,0,30,31] Z (λi T U zs=>(∀s:Nat,s<i->dH l s=true)/\zs=⟨(32,iA i)::T,U⟩) (Lp ?_ ?_ ?_)
 .exact⟨λs hs=>absurd hs (zCm _),rfl⟩
 .rintro i st hi ⟨hp,rfl⟩
  have E:dH l i=true->∀s:Nat,s<i+1->dH l s=true:=λh s hs=>by
   by_cases ag:s=i
   .subst ag;exact h
   .exact hp s zB
  have z:=λh=>Kv (l:=l) hi h
  have Y:=zJ yP l i hi;have I:=XC (l.getD i dd).rights;have L:=zg l i 0 zB;have B:=Jv (l:=l) (n:=ln l) (s:=i);rw[zBf]at B;have u:dH l i=_:=rfl
  conv at u=>rhs;unfold dH
  generalize l.getD i dd=t,dH l i=tk at *;have au:=zA yA t.sec;cases G:t.used
  .rw[show yP t=dO false t by unfold yP dO;rw[G]]at Y;rw[G,Os zV]at u;unfold dO at Y;cases tk
   .rw[z Z];refine WW (I6 (λhc=>?_) (λhc hc=>?_) (λhc hc hc=>?_) (λhc hc hc hc=>?_) (λhc hc hc hc hc=>?_) (λhc hc hc hc hc=>?_))
    all_goals (first|exact zI|(exfalso;simp only[KH]at u;have:=zE4 u.symm;omega))
   .have hq:=u.symm;simp only[KH,zAx]at hq;refine WW ?_
    all_goals (first|exact⟨E Z,rfl⟩|exact MH)
  .rw[show yP t=dO true t by unfold yP dO;rw[G]]at Y;rw[G,f5 Z]at u;unfold dO at Y;unfold Er at u;generalize PV t.rights=q0 at *;generalize ar:YB l (ln l+1) i 0=q2 at *;cases q0
   .simp only[zBt]at u;rw[z u];refine zS I (I2 (λhc=>?_) λhc=>?_)
    all_goals exact zI
   cases C:sa t
   .rw[C]at u;simp only[zCp,zBt]at u;rw[z u]
    (have ga:=I;have ge:=L;(repeat' (first|refine uT ?_|apply yW|apply xI|intro hc|(apply zG;first|refine SM ?_)|fail))<;>clear ga ge)
    all_goals (first|exact zI|(exfalso;simp only[sa,zA4]at C;omega))
   have ac:=C;simp only[sa,zAx]at ac;rw[C]at u;cases q2
   .simp only[zA3,zBt]at u;rw[z u];exact mx (xV I L)
   by_cases V:i=0
   .rw[zAu V]at u;simp only[zA3,zDe]at u;refine yG (xV I L) ?_;exact⟨E u,rfl⟩
   rw[zAs V]at u;simp only[zA3,zC5]at u;obtain⟨p0,p1⟩:=ZY (B Z zB);have ax:=yE yP l t.par p0 p1;generalize l.getD t.par.toNat dd=p at *;have W:=JQ t.rights p.rights;have c5:=AG t.til p.til;generalize Rc t.rights p.rights=q3,Jr t.til p.til=q4 at *;clear B C;cases q3
   .rw[zBt,zBt]at u;rw[z u];exact mx (qM I L W)
   by_cases S:t.cls<=p.cls
   .rw[zAu S,zA3,zA3]at u;cases q4
    ·(refine yG (cD I L W c5) ?_)
     exact⟨E u,rfl⟩
    .rw[z u];exact mx (cD I L W c5)
   .rw[zAs S,zA3,zBt]at u;rw[z u];exact mx (cD I L W c5)
 .rintro st ⟨hp,rfl⟩
  rw[show aQ l=true by
   unfold aQ;rw[zAu h8,M,zA3,zA3]
   exact zA5.2 λi hi=>hp i (zBi.1 hi)]
  exact ly
def yg (l:List Tk) (s:Int) (C:ln l=8):zN 237 [zE yP l,iA s] [] (iA (hH (λi=>YB l (ln l+1) i s) 8)) []:=by
 have hl:=zA yP l;generalize B:(λi:Nat=>YB l (ln l+1) i s)=p;refine eM call237 λF hF=>?_
 refine WW ?_;refine zO ((l.map yP).length) [] [] [0,1,8] [5,9,0,1,8] Z (λi T U=>⟨(5,iA (hH p i))::(9,iA i)::T,U⟩) (Lq ?_ ?_)
 .intro i hi;have hi':i<8:=by omega
  have c:=zg l i s zB;have hb:=VO p i zB;have A:=AQ i zB;rw[show YB l (ln l+1) i s=p i by rw[<-B]]at c
  have e:hH p (i+1)=if p i=true then hH p i+p2 i else hH p i:=rfl
  rw[e];generalize hH p i=b at *;cases u:p i
  .rw[u]at c;simp only[zFp,zFk];refine zS c ?_;rfl
  .rw[u]at c;simp only[zE0];refine zS c ?_;rfl
 .have z:(l.map yP).length=8:=by omega
  rw[z];exact ly
def RQ (p:Nat->Bool) (l:List Tk) (n:Nat):List Tk:=(pi (ln l)).map λj=>if j<n/\p j=true then ab else l.getD j dd
theorem FS (p:Nat->Bool) (l:List Tk) (n:Nat):(RQ p l n).length=ln l:=by simp[RQ]
theorem Sp (p:Nat->Bool) (l:List Tk):RQ p l 0=l:=by apply zB0<;>grind [RQ,List.getElem?_range,py,List.getElem?_eq_none]
theorem Y4 (p:Nat->Bool) (l:List Tk) (n:Nat) (h:n<ln l):(RQ p l n)[n]? =some (l.getD n dd):=by grind [RQ]
theorem Rp (p:Nat->Bool) (l:List Tk) (n:Nat):RQ p l (n+1)=if p n=true then(RQ p l n).set n ab else RQ p l n:=by apply zB0<;>grind [RQ,ab,List.getElem?_range,List.getElem?_eq_none,Bool.false_eq_true,FS]
def xg (l:List Tk) (hb:JU l) (p:Nat->Bool) (O:ln l=8):zN 238 [zE yP l,iA (hH p 8)] [] (zE yP (RQ p l 8)) []:=by
 have c:=MY l hb;have L:=zA yP l;have I:=VO p 8 zB;have B:=Kf p;generalize hH p 8=b at *;refine eM call238 λF hF=>?_
 refine zS c ?_;refine zO ((l.map yP).length) [1001] [] [1,5,10] [11,1,5,10] Z (λi T U=>⟨(11,iA i)::T,(1001,.arr 6 ((RQ p l i).map yP) false)::U⟩) ?_;(conv=>whnf);refine⟨by(rw[Sp];rfl),?_,?_⟩
 .intro i hi;have hi':i<ln l:=by omega
  have R:((RQ p l i).map yP)[i]? =some (yP (l.getD i dd)):=by rw[zAz,Y4 p l i hi'];rfl
  have z:=Rp p l i;have u:=B i zB;have M:i<((RQ p l i).map yP).length:=by rw[zAr,FS];exact hi'
  cases C:p i
  .rw[C]at u z;simp only[zFp,zFk]at z;rw[z];have A:jI (vT b i) 1≠1:=by simpa using u
   generalize (RQ p l i).map yP=xs at *;refine WW ?_;rfl
  .rw[C]at u z;simp only[zE0]at z;have A:jI (vT b i) 1=1:=by simpa using u
   have E:(RQ p l (i+1)).map yP=((RQ p l i).map yP).set i (yP ab):=by rw[z,zCe]
   generalize (RQ p l i).map yP=xs,(RQ p l (i+1)).map yP=ys at *;subst E
   (repeat' (first|refine WTR ?_|apply yW|apply xI|intro hc|(apply zG;first|(apply dX;refine ZU 22 Z Z Z ?_;refine Un tok Z Z Z XY Z Z Z Z Z Z ?_))|refine SB ?_|fail))
   rfl
 .have G:(l.map yP).length=8:=by omega
  rw[G];refine WW ?_;exact zH [] Z Z (zBb (AV.sl false) (zA1 (by simp[FS];omega))) Z
theorem Qp:∀(n:Nat) (f:Nat->Nat),(∀i,i<=n->f i<n)->∃i j,i<j/\j<=n/\f i=f j
 |0,f,h=>absurd (h 0 (zAw _)) (zCm _)
 | n+1,f,h=>by
  by_cases hx:∃i,i<=n/\f i=f (n+1)
  .obtain⟨i,h1,h2⟩:=hx;exact⟨i,n+1,zB,zAw _,h2⟩
  .obtain⟨i,j,h1,h2,u⟩:=Qp n (λi=>if f i<f (n+1)then f i else f i-1) λi hi=>by
    have z:=h i zB;have A:=h (n+1) (zAw _);have B:f i≠f (n+1):=λe=>hx ⟨i,hi,e⟩
    split<;>omega
   refine⟨i,j,h1,zB,?_⟩;have z:f i≠f (n+1):=λe=>hx ⟨i,zB,e⟩
   have A:f j≠f (n+1):=λe=>hx ⟨j,h2,e⟩
   split at u<;>split at u<;>omega
def par (l:List Tk) (s:Int):Int:=(l.getD s.toNat dd).par
def ta (l:List Tk) (s:Int):Nat->Int
 |0=>s
 |k+1=>par l (ta l s k)
theorem YD (l:List Tk) (s:Int):∀k,ta l s (k+1)=ta l (par l s) k
 |0=>rfl
 |k+1=>by rw[ta,YD l s k];rfl
theorem FT (l:List Tk) (s:Int) (i:Nat):∀k,ta l s (i+k)=ta l (ta l s i) k
 |0=>rfl
 |k+1=>by rw[<-zFx,ta,FT l s i k];rfl
theorem XK (l:List Tk) (t:Int):∀(n:Nat) (s:Int),t∈ZX l n s↔∃k,k<n/\(∀j,j<=k->jW l (ta l s j)=true)/\ta l s k=t
 |0,s=>by simp[ZX]
 | n +1,s=>by
  rw[eU];constructor
  .intro h;cases u:jW l s
   .rw[u]at h;simp at h
   .rw[u,zB6,zCf]at h
    rcases h with rfl|h
    .exact⟨0,zB,λj hj=>by rw[Nat.le_zero.1 hj];exact u,rfl⟩
    .obtain⟨k,h1,h2,z⟩:=(XK l t n _).1 h;refine⟨k+1,zB,λj hj=>?_,by rw[YD];exact z⟩
     cases j with
     |zero=>exact u
     |succ j=>rw[YD];exact h2 j zB
  .rintro⟨k,h1,h2,z⟩;have u:=h2 0 (zA9 _)
   change jW l s=true at u
   rw[u,zB6,zCf]
   cases k with
   |zero=>exact .inl z.symm
   |succ k=>
    rw[YD]at z;refine .inr ((XK l t n _).2 ⟨k,zB,λj hj=>?_,z⟩);have:=h2 (j+1) zB;rw[YD]at this;exact this
theorem Pp (I:ln l=8) (s t:Int) (n:Nat) (h:t∈ZX l n s):t∈ZX l 8 s:=by
 obtain⟨k,_,h2,u⟩:=(XK l t n s).1 h;clear h
 suffices ∀m k,k<=m->(∀j,j<=k->jW l (ta l s j)=true)->ta l s k=t->t∈ZX l 8 s from this k k (zAw _) h2 u
 intro m
 induction m with
 |zero=>intro k hk h2 u;exact(XK l t 8 s).2 ⟨k,zB,h2,u⟩
 | succ m z=>
  intro k hk h2 u;by_cases h:k<8
  .grind [ZX,XK]
  obtain⟨i,j,C,E,G⟩:=Qp 8 (λi=>(ta l s i).toNat) λi hi=>by
   have:=ZY (h2 i zB);omega
  have e1:=ZY (h2 i zB);have A:=ZY (h2 j zB);have e3:ta l s i=ta l s j:=by omega
  have B:∀r,ta l s (i+r)=ta l s (j+r):=λr=>by rw[FT,FT,e3]
  refine z (i+(k-j)) zB (λr L=>h2 r zB) ?_
  grind
theorem Np (l:List Tk) {m:Nat} (u:n<=m) (h:t∈ZX l n s):t∈ZX l m s:=by grind [ZX,XK]
inductive wg (l:List Tk):Int->Int->Prop
 |base (s:Int):jW l s=true->wg l s s
 |step (s t:Int):jW l s=true->wg l (par l s) t->wg l s t
theorem FU (l:List Tk) (t:Int):∀(n:Nat) (s:Int),t∈ZX l n s->wg l s t
 |0,s,h=>by simp[ZX]at h
 | n+1,s,h=>by
  rw[eU]at h;cases u:jW l s
  .rw[u]at h;simp at h
  .rw[u,zB6,zCf]at h
   rcases h with rfl|h
   .exact .base _ u
   .exact .step _ _ u (FU l t n _ h)
theorem FV (h:wg l s t):∃n,t∈ZX l n s:=by
 induction h with
 |base s u=>exact⟨1,by rw[eU,u,zB6];exact List.mem_cons_self⟩
 |step s t u _ A=>
  obtain⟨n,z⟩:=A;exact⟨n+1,by rw[eU,u,zB6];exact List.mem_cons_of_mem _ z⟩
theorem RR (u:ln l=8) (s t:Int):YB l 9 s t=true↔wg l s t:=by
 rw[Tp,zCi];constructor
 .grind [YB,FU]
 .intro h;obtain⟨n,z⟩:=FV h;exact⟨t,Np l zB (Pp u s t n z),by simp⟩
theorem W4 (u:ln l=8) (s t:Int):lj l s t=true↔wg l s t:=by grind [lj,List.any_eq_true,FU,FV,Pp]
theorem Uy (u:ln l=8) (s t:Int):lj l s t=YB l 9 s t:=by
 rw[zFa,W4 u,RR u]
theorem vg (l:List Tk):QZ l=aQ l:=by
 unfold QZ aQ;by_cases z:ln l=8
 case neg=>rw[zAs zB];rfl
 rw[zAu zB,zA3,zA3,z,zFa];simp only[zA2,zA5,zBi]
 have A:∀i:Nat,i<7->(MZ l ((i:Int)+1)=dH l (i+1)):=λi hi=>by
  unfold MZ dH;rw[Uy z,z,show(((i+1:Nat):Int)=(i:Int)+1) by omega,show((i:Int)+1).toNat=i+1 by omega,zAs (by omega:¬i+1=0),zC5]
 constructor
 .rintro⟨h1,h2⟩;unfold II at h1;simp only[zA2,zAx]at h1;obtain⟨⟨u,p,q⟩,r⟩:=h1;refine⟨by unfold YC;rw[u,p,q];rfl,λi hi=>?_⟩
  cases i with
  |zero=>
   grind [QZ,aQ,dH,YB,RR,jW]
  |succ i=>rw[<-A i zB];exact h2 i zB
 .rintro⟨h1,h2⟩;have B:=h2 0 zB
  grind [QZ,aQ,YC,dH,II]
structure TV (l:List Tk):Prop where
 n:l.length=8
 u:(l.getD 0 default).used=true
 p:(l.getD 0 default).par= -1
 e:(l.getD 0 default).til=0
 f:∀i,i<8->(l.getD i default).used=false->KH (l.getD i default)=true
 s:∀i,i<8->(l.getD i default).used=true->Er (l.getD i default)=true/\wg l i 0/\(i≠0->Rc (l.getD i default).rights (l.getD (l.getD i default).par.toNat default).rights=true/\(l.getD i default).cls<=(l.getD (l.getD i default).par.toNat default).cls/\Jr (l.getD i default).til (l.getD (l.getD i default).par.toNat default).til=false)
theorem V4 (l:List Tk):aQ l=true↔TV l:=by
 unfold aQ;simp only[zA2,zAx,zA5,zBi];constructor
 .rintro⟨z,h1,h2⟩;have z:ln l=8:=by omega
  unfold YC at h1;simp only[zA2,zAx]at h1;refine⟨z,h1.1,h1.2.1,h1.2.2,λi hi A=>?_,λi hi A=>?_⟩
  .grind [aQ,dH]
  .have:=h2 i zB;unfold dH at this;rw[f5 A,z]at this;simp only[zA2,zC3,zAx,zC9]at this
   grind [aQ,RR]
 .rintro⟨z,u,p,e,f,s⟩;refine⟨zB,by unfold YC;rw[u,p,e];rfl,λi hi=>?_⟩;unfold dH;cases A:(l.getD i dd).used
  .grind
  .rw[f5 Z,z];obtain⟨a,b,c⟩:=s i zB A;simp only[zA2,zC3,zAx,zC9]
   grind [aQ,RR]
theorem Iv (l:List Tk) (s:Int):jW l s=true↔∃i:Nat,s=i/\i<ln l/\(l.getD i dd).used=true:=by grind [jW]
theorem wg.us (h:wg l s t):jW l s=true:=by
 cases h<;>assumption
theorem wg.trans {u:Int} (h:wg l s t) (g:wg l t u):wg l s u:=by
 induction h with
 |base _ _=>exact g
 |step s t z _ A=>exact .step _ _ z (A g)
theorem U4 (u:ln l=8) (f3:Int):ZZ l f3=RQ (λj=>(pi 8).any λi=>jW l i&&qb (l.getD i dd) f3&&YB l 9 j i) l 8:=by
 unfold ZZ RQ;rw[u];apply List.map_congr_left;intro j hj;rw[zBi]at hj;unfold oa
 have:((ZX l 8 j).any λa=>qb (l.getD a.toNat dd) f3)=((pi 8).any λi=>jW l i&&qb (l.getD i dd) f3&&YB l 9 j i):=by
  rw[zFa,zCi,zCi];constructor
  .rintro⟨a,h1,h2⟩;have z:=Ld _ _ _ h1
   grind [ZZ,RQ,jW,qb,YB,Iv,Int.toNat_natCast,RR,FU]
  .rintro⟨i,_,h2⟩;simp only[zA2]at h2
   grind [ZZ,RQ,jW,qb,YB,FV,RR,Pp,Int.toNat_natCast]
 grind
def uE (n a b:Int):Bool:=decide (a<=n/\n<=b)
def fS (n a b:Int):zN 148 [iA n,iA a,iA b] [] (bA (uE n a b)) []:=by
 (cases hb:uE n a b with|false=>((refine eM call148 λF hF=>?_);((refine WW (I2 (λhc=>?_) λhc=>?_)));all_goals (first|exact zI|(simp only[uE,zA4]at hb;first|exact MH|exact PX)))|true=>(simp only[uE,zAx]at hb;(refine eM call148 λF hF=>?_);((refine WW ?_));all_goals (first|exact zI|exact MH|exact PX)))
structure Ty (a:Ag):Prop where
 s:(a.sec.length:Int)=8
 l:(a.lim.length:Int)=4
 li:∀n∈a.lim,0<=n/\n<=8
 r:0<=a.rights/\a.rights<=63
 c:0<=a.cls/\a.cls<=3
 q:0<=a.req/\a.req<=4
 e:1<=a.ses/\a.ses<=2
 b:0<=a.burst/\a.burst<=1000
 t:0<=a.rate/\a.rate<=a.burst
def a0:Ag:=⟨cL 1,1,0,[1,1,1,1],0,1,0,2⟩
theorem gZ (n:Int):(cL n).length=8:=by simp[cL]
def Hv (n:Int):0<=IntKind.u8.wrap n/\IntKind.u8.wrap n<256:=by
 have:IntKind.u8.wrap n=n % 256:=rfl;omega
theorem OE (n:Int):BY (cL n):=λx hx=>by
 unfold cL at hx;rw[zCa]at hx;obtain⟨i,_,rfl⟩:=hx;exact Hv _
theorem Mp {g:Int} {l:List Int} (u:0<=g/\g<256) (z:0<=s/\s<256) (hl:BY l):BY (g::s::l):=λx hx=>by
 simp only[zCf]at hx
 rcases hx with rfl|rfl|hx
 .exact u
 .exact z
 .exact hl x hx
theorem L7 (n:Int) (a:Ag) (h:Ty a):GR (QY n a):=by
 have h1:=h.s;have h2:=h.l;refine⟨⟨by simp[QY,Bf],λt u=>?_⟩,by unfold QY;dsimp only;omega,by unfold QY;dsimp only;omega,by simp[QY]⟩
 grind [QY,Bf,ab]
section
open Go.RowKit
def LIn (k:IntKind) (w:World) (A:Option Addr) (n c:Nat) (xs:List Int):Prop:=
 (ln xs)=n/\n<=c/\c<=9223372036854775807/\(0<n->∃b o,A=some ⟨b,o,none⟩/\b<w.heap.size/\∀j,j<n->w.cell? ⟨b,o+j,none⟩=some (.int k (xs.getD j 0)))
theorem LIn.of_row {a:Option Addr} {len cap:Nat} {z:List Int}
 (h:(a=none/\len=0/\cap=0/\z=[])\/∃x,a=some x/\len<=cap/\cap<=maxLen/\z.length=cap/\(∀i,i<ln z->w.cell? (x.add i)=some (.int k (z.getD i 0)))/\∀n∈z,(Lit.int k n).wf=true):
  LIn k w a len cap (z.take len):=by
 rcases h with⟨rfl,rfl,rfl,rfl⟩|⟨x,rfl,h1,h2,G,C,_⟩
 .grind [LIn]
 .refine⟨by simp;omega,h1,by unfold maxLen at h2;omega,λI=>?_⟩;obtain⟨b,off,A⟩:=x;have hc:=C 0 zB;have u:A=none:=by simpa [Addr.add]using World.cell?_spot hc
  subst u;have B:w.cell? ⟨b,off,none⟩=some (.int k (z.getD 0 0)):=by simpa [Addr.add]using hc
  refine⟨b,off,rfl,World.block_lt_of_cell? w _ B,λj hj=>?_⟩;have E:=C j zB
  have e:(⟨b,off,none⟩:Addr).add j=⟨b,off+j,none⟩:=by unfold Addr.add;split<;>simp_all
  grind
theorem LIn.repf {A:Option Addr} {c:Nat} {xs:List Int} (h:LIn k w A n c xs) {D:Nat->Prop} (C:∀b,¬D b):xM w D (.sl false (xs.map λn=> .s (.int k n))) (.slice A n c):=by
 obtain⟨rfl,h2,G,B⟩:=h
 cases hx:xs with
 |nil=>exact .nil A c
 | cons x r=>
  rw[<-hx];obtain⟨b,o,rfl,hb,hc⟩:=B DW
  have:=xM.sl (w:=w) (D:=D) false (xs.map λn=>AV.s (.int k n)) b o 1 c (λi _=> .int k (xs.getD i 0)) DW
   ⟨hb,C b,zAw _,by simp[dY];omega,λi y u=>by
    rw[zAz,zBa]at u;obtain⟨z,_,rfl⟩:=u
    rfl,λi j hi hj=>by
    obtain rfl:j=0:=by omega
    rw[Nat.mul_one,zDh]
    exact hc i DY,λ_ _ _ _=>rfl⟩ CB (λi y j v u hv=>by
    rw[zAz,zBa]at u;obtain⟨z,E,rfl⟩:=u
    cases j with
    |zero=>
     simp[AV.cells]at hv;subst hv;have:xs.getD i 0=z:=by simp[py,E]
     rw[this];exact .s _
    |succ j=>simp[AV.cells]at hv)
  simpa using this
theorem xO.law {P:Program} {f:Nat} {args:List AV} (h:xO P f args [] (.s (.bool true)) []) {u:Array Value} {w:World} (hl:u.size=ln args)
  (B:∀(i:Nat) v,args[i]? =some v->xM w (xT (λ_=>False) λ_=>[]) v (u.getD i undef)):Calls P f u w λe w'=>e= .returned (.bool true)/\Below w.heap.size w w':=by
 have H:jL (λ_=>False) (zD []) (λ_=>[]) w:=⟨λk e z=>by simp[zD]at z,λ_ _=>rfl,λk C b n E h1 _=>by simp at h1,λk b n h1=>by simp at h1,λb hd=>by
  rcases hd with hd|⟨_,_,hd⟩
  .exact hd.elim
  .simp at hd⟩
 refine Calls.mono (h.sim (λ_=>False) w (λ_=>[]) u hl H λi v hv=> .fz _ _ (B i v hv)) ?_;rintro e w' ⟨c,β',rfl,G,hc⟩;have:c= .bool true:=hc.s_inv;subst this;exact⟨rfl,G.os,G.tape,G.output,G.size,λk hk=>G.keep k hk λ_ _ A=>by simp at A⟩
def dom0:∀b,¬xT (λ_=>False) (λ_=>[]) b:=λb hd=>by
 rcases hd with hd|⟨_,_,hd⟩
 .exact hd
 .simp at hd
def YE (w:World):List AV->List Value->Prop
 | [],[]=>True
 |a::r,c::s=>xM w (xT (λ_=>False) λ_=>[]) a c/\YE w r s
 |_,_=>False
theorem YE.len :∀{l:List AV} {s:List Value},YE w l s->ln s=ln l
 | [],[],_=>rfl
 |_::_,_::_,h=>by simp[YE.len h.2]
 | [],_::_,h=>h.elim
 |_::_,[],h=>h.elim
theorem YE.at :∀{l:List AV} {s:List Value},YE w l s->∀(i:Nat) v,l[i]? =some v->xM w (xT (λ_=>False) λ_=>[]) v (s.getD i undef)
 | [],[],_,i,v,hv=>by simp at hv
 |a::_,c::_,h,0,v,hv=>by simp at hv;subst hv;exact h.1
 |_::_,_::_,h,i+1,v,hv=>by simpa using YE.at h.2 i v DZ
 | [],_::_,h,_,_,_=>h.elim
 |_::_,[],h,_,_,_=>h.elim
theorem xO.lawL {P:Program} {f:Nat} {args:List AV} (h:xO P f args [] (.s (.bool true)) []) {cs:List Value} {w:World} (u:YE w args cs):Calls P f cs.toArray w λe w'=>e= .returned (.bool true)/\Below w.heap.size w w':=
 h.law (by simpa using u.len) λi v hv=>by simpa [zBu,py]using u.at i v hv
theorem LIn.le {A:Option Addr} {c:Nat} {xs:List Int} (h:LIn k w A n c xs):ln xs<=9223372036854775807:=by grind [LIn]
end
def rem (d:Dk):Nat:=ln d.l-d.a
theorem vF (d:Dk):rem (ad d)<=rem d:=by unfold ad;split;(unfold rem;dsimp only;omega);exact zAw _
def T4 (d:Dk) (h:d.a<ln d.l):rem (ad d)+1<=rem d:=by unfold ad;rw[zF1 h];unfold rem;dsimp only;omega
def Kp (d:Dk):zN 26 [.ptr 1000 0 0] [(1000,eE d)] (bA (decide (d.a<ln d.l))) [(1000,eE d)]:=by
 have hl:(d.l.map iA).length=ln d.l:=by simp
 refine eM call26 λF hF=>?_
 (repeat' (first|refine aM ?_|refine yW (λhc=>?_) λhc=>?_|fail))
 refine zP [1000] Z Z (zBb bA ?_) Z;simp[uN]
structure TkP (l:List Tk):Prop where
 n:l.length=8
 y:∀t∈l,BY t.sec/\t.sec.length<=8/\(t.used=true->t.sec.length=8/\PV t.rights=true/\0<=t.til/\t.til<=2147483648)
 v:TV l
theorem TkP.b (h:TkP l):JU l:=⟨by have:=h.n;omega,λt u=>by have:=(h.y t u).2.1;omega⟩
