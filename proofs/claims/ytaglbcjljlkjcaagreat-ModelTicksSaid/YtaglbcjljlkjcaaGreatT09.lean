/- Part 9. -/
import Derived.Test.YtaglbcjljlkjcaaGreatT08
import Derived.WalkKit
import Derived.ProofKit
namespace Go.Proofs.YtaglbcjljlkjcaaGreat.Av
open Tryz
set_option linter.all false
set_option maxRecDepth 4000
set_option maxHeartbeats 1000000
open List renaming length->ln,replicate->oj,range->pb,getD->pi
open Inhabited renaming default->dd
variable {s t:Int}{k:IntKind}{l:List Tk}{n:Nat}{w:World}
def ZX (l:List Tk):Nat->Int->List Int
 |0,_=>[]
 |n+1,s=>bif jZ l s then s::ZX l n (l.getD s.toNat dd).par else []
def eX (l:List Tk) (k:Nat) (a:Int):ZX l (k+1) a=bif jZ l a then a::ZX l k (l.getD a.toNat dd).par else []:=rfl
theorem ZY (h:jZ l s=true):0<=s/\s<ln l:=by grind [jZ]
theorem od :∀(n:Nat) (s x:Int),x∈ZX l n s->jZ l x=true
 |0,s,x,h=>by simp[ZX]at h
 | n+1,s,x,h=>by
  unfold ZX at h
  cases u:jZ l s<;>rw[u]at h
  .simp at h
  .rw[zCk,zCt]at h
   rcases h with rfl|h
   .exact u
   .exact od n _ x h
def Tn (l:List Tk) (s:Int):List (Nat×xW):=[(1003,.box [iA s]),(1004,.box [zE yN l])]
def Xy (l:List Tk) (s:Int):zM 263 [zE yN l,iA s] [] (.fn 302 [.ptr 1003 0 0,.ptr 1004 0 0]) (Tn l s):=by
 refine eM call263 λF hF=>?_
 repeat' (first|(apply zG;first|refine uX (dM (v:=AV.sl _ _) 1004 Z Z) Z Z Z ?_|refine uX (dM (v:=AV.s _) 1003 Z Z) Z Z Z ?_|refine uN tok Z Z ?_|apply kP)|(first|apply xZ|apply xR|refine uD Z ?_|refine yR Z ?_|refine yE Z ?_|refine wA Z (λhc=>?_) λhc=>?_|apply xJ|apply xL|apply xQ|apply xB))
 exact zP [1003,1004] Z Z Z Z
def Sn (l:List Tk) (s:Int):TE prog 302 [.ptr 1003 0 0,.ptr 1004 0 0] (Tn l s) ((ZX l 8 s).map λx=>[iA x]):=by
 have hl:=zA yN l;refine VN func302 Z (λargs w=>call302 args w) Z Z Z (λF y I z G=>?_);unfold Tn;refine WW ?_;refine yV (8) [1003,1004] [1003,1004] [0,2] [4,6,1000000,0,2] Z (λi T U L=>∃(a:Int) (f4:List Int),(ZX l 8 s=f4++ZX l (8-i) a/\f4.length=i)/\L=⟨(4,iA a)::(6,iA i)::(1000000,.gh i)::T,U⟩) (Lp ?_ ?_ ?_)
 .exact⟨s,[],⟨rfl,rfl⟩,rfl⟩
 .rintro i st hi ⟨a,f4,⟨hp,hpl⟩,rfl⟩;have c:=Zd l a;obtain⟨k,hk⟩:∃k,8-i=k+1:=⟨7-i,zB⟩;rw[hk,eX l k a]at hp
  cases C:jZ l a<;>rw[C]at c hp
  .rw[zC7,zB1]at hp;refine zU c ?_;exact TF Z (.inl (by rw[zA5,hp,hpl]))
  .rw[zCk]at hp;obtain⟨E,h1⟩:=ZY C;have M:=yF yN l a E h1;have u:((ZX l 8 s).map λx=>[iA x])[i]? =some [iA a]:=by rw[hp];simp[<-hpl]
   have B:i<((ZX l 8 s).map λx=>[iA x]).length:=(zBw.1 u).1;generalize ((ZX l 8 s).map λx=>[iA x])=xs at *;have A:ZX l 8 s=(f4++[a])++ZX l (8-(i+1)) (l.getD a.toNat dd).par:=by rw[hp,show 8-(i+1)=k by omega];simp
   generalize l.getD a.toNat dd=t at*
   (repeat' (first|refine uQ ?_|apply yW|apply xG|intro hc|(apply zG;apply xP;first|(first|(refine vH 303 ?_;first|refine wJ (zL (c) Z Z Z Z Z) Z ?_|refine uX (zL (c) Z Z Z Z Z) Z Z Z ?_|refine aK (zL (c) Z Z Z Z Z) Z Z Z ?_))|(apply Pf;refine FE z G Z Z u Z Z Z ?_ ?_))|(apply zG;first|refine SM ?_)|fail))
   .exact⟨t.par,f4++[a],⟨A,by simp[hpl]⟩,rfl⟩
   .exact TF Z (.inr zB)
 .rintro st ⟨a,f4,⟨hp,hpl⟩,rfl⟩;rw[show ZX l (8-8) a=[]from rfl,zB1]at hp;refine WW ?_;exact ZV rfl (.inl (by rw[zA5,hp,hpl]))
def Xj (l:List Tk) (s u:Int):Bool:=(ZX l 8 s).any λa=>a==u
def Rn (l:List Tk) (s u:Int):zM 377 [zE yN l,iA s,iA u] [] (bA (Xj l s u)) []:=by
 have c:=Xy l s;unfold Tn at c;refine eM call377 λF hF=>?_
 refine zU c ?_;refine qQ hF (Sn l s) Z [5,6] [5,6] Z Z Z Z Z Z Z Z Z (λi ys h=>?_) (λ_=>[(5,.box [iA u]),(6,.box [.s (.bool false)])]) (λi=>∀x∈(ZX l 8 s).take i,x≠u) (T:=[(5,.ptr 5 0 0),(6,.ptr 6 0 0)]) Z zW (λi ys y B E L h1 h2=>?_) (λE=>?_)
 .rw[zBd,zBo]at h;obtain⟨x,_,rfl⟩:=h;rfl
 .rw[zBd,zBo]at B;obtain⟨x,G,rfl⟩:=B
  show uG _ L _ _ ⟨[(11,iA x),(5,.ptr 5 0 0),(6,.ptr 6 0 0)],[(5,.box [iA u]),(6,.box [.s (.bool false)])]⟩ _
  have A:x∈ZX l 8 s:=zCq G;refine WW ?_;refine⟨rfl,λM O R=>?_⟩;by_cases I:x=u
  .have hd:Xj l s u=true:=zCw.2 ⟨x,A,by simpa using I⟩;rw[hd];exact ly
  ·(refine WW ?_)
   refine⟨rfl,λz C=>?_⟩;rw[zD4,G]at C;simp only[Option.toList_some,zBq,zBz]at C
   rcases C with C|rfl
   .exact E z C
   .exact I
 .rw[zA5,zA8]at E;have hd:Xj l s u=false:=zDn.2 λx G=>by simpa using E x G
  rw[hd];exact ly
def AN (l:List Tk) (f3:Int) (j:Nat):Tk:=if(ZX l 8 j).any (λa=>Ub (l.getD a.toNat dd) f3)=true then Tb else l.getD j dd
def QZ (l:List Tk) (f3:Int) (s:Nat):List Tk:=(pb (ln l)).map λj=>if j<s then AN l f3 j else l.getD j dd
def ZZ (l:List Tk) (f3:Int):List Tk:=(pb (ln l)).map (AN l f3)
def FJ (l:List Tk) (f3:Int) (s:Nat):(QZ l f3 s).length=ln l:=by simp[QZ]
theorem Qn (l:List Tk) (f3:Int):QZ l f3 0=l:=by apply zCe<;>grind [QZ,List.getElem?_range,pi,List.getElem?_eq_none]
theorem Su (l:List Tk) (f3:Int):QZ l f3 (ln l)=ZZ l f3:=by grind [QZ,ZZ,List.map_congr_left]
theorem Pn (l:List Tk) (f3:Int) (s:Nat) (h:s<ln l):(QZ l f3 s)[s]? =some (l.getD s dd):=by grind [QZ]
theorem On (l:List Tk) (f3:Int) (s:Nat):QZ l f3 (s+1)=(QZ l f3 s).set s (AN l f3 s):=by apply zCe<;>grind [QZ,AN,List.getElem?_range,List.getElem?_eq_none]
theorem Nn (l:List Tk) (hb:IL l) (f3:Int):zM 220 [zE yN l,iA f3] [] (zE yN (ZZ l f3)) []:=by
 have c:=VP l hb;have hn:=hb.n;have M:=zA yN l;refine eM call220 λF hF=>?_
 refine zU c ?_;refine zO ((l.map yN).length) [1001,2,3,5] [2,3,5] [2,3,5,11,18] [12,2,3,5,11,18] Z (λi T U=>⟨(12,iA i)::T,(1001,.arr 6 ((QZ l f3 i).map yN) false)::U⟩) ?_;(conv=>whnf);refine⟨by(rw[Qn];rfl),?_,?_⟩
 .intro i hi;have hi':i<ln l:=by omega
  have O:=Xy l i;unfold Tn at O;have hy:((QZ l f3 i).map yN)[i]? =some (yN (l.getD i dd)):=by rw[zBd,Pn l f3 i hi'];rfl
  have R:=On l f3 i;have L:=Yd;have ag:i<((QZ l f3 i).map yN).length:=by rw[zA5,FJ];exact hi'
  refine zU O ?_
  refine qQ hF (Sn l i) Z [2,3,5,6,1001] [2,3,5,6,11,12] Z Z Z Z Z Z Z Z Z (λk ys h=>?_) (λ_=>[(2,.box [zE yN l]),(3,.box [iA f3]),(5,.box [.ref 1001 0 (l.map yN).length]),(6,.box [iA i]),(1001,.arr 6 ((QZ l f3 i).map yN) false)]) (λk=>∀x∈(ZX l 8 i).take k,Ub (l.getD x.toNat dd) f3=false)
   (T:=[(2,.ptr 2 0 0),(3,.ptr 3 0 0),(5,.ptr 5 0 0),(6,.ptr 6 0 0),(11,iA (l.map yN).length),(12,iA i)]) Z zW (λk ys y A C V h1 h2=>?_) (λC=>?_)
  .rw[zBd,zBo]at h;obtain⟨x,_,rfl⟩:=h;rfl
  .rw[zBd,zBo]at A;obtain⟨x,S,rfl⟩:=A
   show uG _ V _ _ ⟨[(18,iA x),(2,.ptr 2 0 0),(3,.ptr 3 0 0),(5,.ptr 5 0 0),(6,.ptr 6 0 0),(11,iA (l.map yN).length),(12,iA i)],[(2,.box [zE yN l]),(3,.box [iA f3]),(5,.box [.ref 1001 0 (l.map yN).length]),(6,.box [iA i]),(1001,.arr 6 ((QZ l f3 i).map yN) false)]⟩ _
   have u:x∈ZX l 8 i:=zCq S;obtain⟨W,Y⟩:=ZY (od _ _ _ u);have ap:=yF yN l x W Y;have E:=IK (l.getD x.toNat dd) f3;refine WW ?_;refine⟨rfl,λF2 g1 g2=>?_⟩
   cases I:Ub (l.getD x.toNat dd) f3<;>rw[I]at E
   ·(refine zU E ?_)
    refine⟨rfl,λz B=>?_⟩;rw[zD4,S]at B;simp only[Option.toList_some,zBq,zBz]at B
    rcases B with B|rfl
    .exact C z B
    .exact I
   .have G:(QZ l f3 (i+1)).map yN=((QZ l f3 i).map yN).set i (yN Tb):=by
     rw[R,AN,zA4 (zCw.2 ⟨x,u,I⟩),zCs]
    generalize (QZ l f3 i).map yN=xs,(QZ l f3 (i+1)).map yN=ys at *;subst G;refine yH (xU E L) ?_;rfl
  .rw[zA5,zA8]at C
   have G:(QZ l f3 (i+1)).map yN=(QZ l f3 i).map yN:=by
    rw[R,AN,Os (by simpa using C)]
    congr 1
    have:=Pn l f3 i hi';rw[zBw]at this;obtain⟨h,e⟩:=this;rw[<-e,zGp]
   generalize (QZ l f3 i).map yN=xs,(QZ l f3 (i+1)).map yN=ys at *;subst G;refine WW ?_;rfl
 .have ac:(l.map yN).length=((QZ l f3 (ln l)).map yN).length:=by simp[FJ]
  rw[<-Su];rw[M]at *; refine WW ?_;exact zI [] Z Z (zBp (AV.sl false) (zBf (by simp[FJ]))) Z
def Lf (a:Ag):List Tk:=⟨true,a.sec,-1,a.rights,a.cls,0⟩::oj 7 Tb
def zT:AV:= .agg [.s (.bool false),.s (.slice none 0 0),.s (.int .i64 0),.s (.int .i64 0),.s (.int .i64 0),.s (.int .i64 0)]
def Vb (i:Nat):List AV:=oj i (yN Tb)++oj (8-i) zT
theorem V3 (i:Nat) (h:i<8):(Vb i)[i]? =some zT:=by grind [Vb,zT]
def Ru (i:Nat) (h:i<8):(Vb i).set i (yN Tb)=Vb (i+1):=by
 unfold Vb;rw[show 8-i=(8-(i+1))+1 by omega,zFz (n:=8-(i+1)),zE4 _ _ zW,zC5,zEb,zGa,zFd (n:=i),zBx];rfl
def U3 (a:Ag) (C:ln a.sec<=1000000):zM 206 [uK a] [] (zE yN (Lf a)) []:=by
 have A:=Yd;have cs:=kU a.sec zB;obtain⟨N,hN⟩:∃N:Nat,N=8:=⟨8,rfl⟩;refine eM call206 λF hF=>?_
 refine WW ?_;refine zO (N) [5,1] [1] [1] [8,7,3,1] Z (λi T U=>⟨(8,iA i)::(7,iA N)::(3,.ref 5 0 N)::T,(5,.arr 6 (Vb i) false)::U⟩) ?_;(conv=>whnf);refine⟨by(rw[hN];rfl),?_,?_⟩
 .intro i hi;have z:=V3 i zB;have e:=Ru i zB;have u:(Vb i).length=8:=by unfold Vb;simp;omega
  generalize Vb i=xs,Vb (i+1)=ys at *;subst e;unfold zT at z;refine zU A ?_;rfl
 .rw[show Vb N=Vb 8 by rw[hN]];have z:(Vb 8)[0]? =some (yN Tb):=rfl;have B:(Vb 8).set 0 (yN ⟨true,a.sec,-1,a.rights,a.cls,0⟩)=(Lf a).map yN:=rfl;have u:(Vb 8).length=8:=rfl;generalize Vb 8=xs at *;unfold yN at z;refine zU cs ?_;exact zI [] Z Z (zBp (AV.sl false) ((zBf qB).trans B)) Z
def PA (n:Int) (a:Ag):Rg:=⟨n,a,Lf a,[],⟨a.burst,a.rate,a.burst⟩⟩
def S3 (n:Int) (a:Ag) (u:ln a.sec<=1000000) (hl:ln a.lim<=1000000):zM 151 [iA n,uK a] [] (uR (PA n a)) []:=by
 have z:=AT a u hl;have A:=U3 a u;have B:=F3 a.rate a.burst;unfold PA;generalize Lf a=C at *;refine eM call151 λF hF=>?_
 exact mt (qL z A B)
def YA (g s:Int) (l:List Int) (hl:ln l<=1000000) (z:0<=g) (A:g<256) (B:0<=s) (C:s<256):zM 66 [iA g,iA s,zE yA l] [] (zE yA (g::s::l)) []:=by
 have u:=zA yA l;refine eM call66 λF hF=>?_
 refine WW ?_;exact zI [] Z Z (zBp (AV.sl false) (zBf zW)) Z
def R3 (a b:List Int):zM 341 [zE yA a,zE yA b] [] (bA (Ch a b)) []:=by
 refine eM call341 λF hF=>?_
 exact ly
def vi (l:List Tk) (b:List Int):Tk:=l.getD (b.getD 1 dd).toNat dd
def IG (l:List Tk) (g:Int) (b:List Int) (k f3:Int):Bool:=decide ((ln b:Int)=10/\b.getD 0 dd=g)&&jZ l (b.getD 1 dd)&&(Ch (b.drop 2) (vi l b).sec&& !Ub (vi l b) f3&&Wj (vi l b).rights k)
def Qu (l:List Tk) (g:Int) (b:List Int) (k f3:Int) (hb:BY b):zM 305 [zE yN l,iA g,zE yA b,iA k,iA f3] [] (.tup [iA (if IG l g b k f3=true then b.getD 1 dd else 0),iA (if IG l g b k f3=true then 0 else 9)]) []:=by
 have L:=zA yA b;have M:=zA yN l;by_cases h1:(ln b:Int)=10
 case neg=>
  have e:IG l g b k f3=false:=by unfold IG;rw[zA6 (λh=>h1 h.1)];rfl
  rw[e];refine eM call305 λF hF=>?_
  exact ly
 have B:=yF yA b 0 zB zB;have C:=yF yA b 1 zB zB;have Y:0<=b.getD 0 dd/\b.getD 0 dd<256:=hb _ Ee;have b1:0<=b.getD 1 dd/\b.getD 1 dd<256:=hb _ Ee
 change (b.map yA)[0]? =some (yA (b.getD 0 dd))at B
 change (b.map yA)[1]? =some (yA (b.getD 1 dd))at C
 unfold IG vi;generalize b.getD 0 dd=W,b.getD 1 dd=z at *;by_cases h2:W=g
 case neg=>
  rw[zA6 (λh=>h2 h.2)];refine eM call305 λF hF=>?_
  exact ly
 rw[zA7 ⟨h1,h2⟩];have u:=Zd l z;cases A:jZ l z
 .rw[A]at u;refine eM call305 λF hF=>?_
  exact mx u
 rw[A]at u;obtain⟨U,V⟩:=ZY A;have O:=yF yN l z U V;generalize l.getD z.toNat dd=t at *;have E:=R3 (b.drop 2) t.sec;have I:=IK t f3;have G:=ji t.rights k;generalize Ch (b.drop 2) t.sec=q1,Ub t f3=R,Wj t.rights k=S at *
 cases q1<;>cases R<;>cases S<;>((refine eM call305 λF hF=>?_);exact mt (cL u E I G))
def rgZ:Rg:=⟨0,⟨[],0,0,[],0,0,0,0⟩,[],[],⟨0,0,0⟩⟩
def TH (k:Int):Bool:=decide (2<=k/\k<=8)
def Kf (r:Rg) (m:Ms) (f3:Int):Int:=if IG r.tk r.num m.tok m.kind f3=true then(if TH m.kind=true/\r.bk.level<=0 then 13 else 0)else 9
def Mn (r:Rg) (m:Ms) (f3:Int):Rg:=if Kf r m f3=0 then(if TH m.kind=true then⟨r.num,r.ag,r.tk,r.vh,RO r.bk⟩else r)else rgZ
def Wy (r:Rg) (m:Ms) (f3:Int):Int:=if Kf r m f3=0 then m.tok.getD 1 dd else 0
def Q3 (r:Rg) (m:Ms) (f3:Int) (G:IM r) (E:BY m.tok) (hl:r.bk.level<=1000000):zM 268 [uR r,zX m,iA f3] [] (.tup [uR (Mn r m f3),iA (Wy r m f3),iA (Kf r m f3)]) []:=by
 have u:=Qu r.tk r.num m.tok m.kind f3 E;have A:=cH r G;have z:=Au r.bk zB;unfold Mn Wy Kf
 cases B:IG r.tk r.num m.tok m.kind f3<;>rw[B]at u
 ·(refine eM call268 λF hF=>?_)
  exact mx u
 .generalize m.tok.getD 1 dd=C at *;cases hk:TH m.kind
  .have hk':¬(2<=m.kind/\m.kind<=8):=zFi hk;refine eM call268 λF hF=>?_
   refine yH (xU u A) (I2 (λhc=>?_) λhc=>?_)
   all_goals (first|exact MJ|exact zH)
  .have hk':2<=m.kind/\m.kind<=8:=zEx hk;by_cases hv:r.bk.level<=0
   .rw[zA6 zB]at z;simp only[hv,and_self,zE7];refine eM call268 λF hF=>?_
    exact mt (qL u A z)
   .rw[zA7 zB]at z;simp only[hv,zFo,zF1,zE7];generalize hb:RO r.bk=I at *;refine eM call268 λF hF=>?_
    exact mt (qL u A z)
def P3 (r:Rg) (f3:Int):Rg:=⟨r.num,r.ag,ZZ r.tk f3,r.vh,E7 r.bk⟩
def Pu (r:Rg) (f3:Int) (u:IM r) (hl: -1000000<=r.bk.level+r.bk.rate/\r.bk.level+r.bk.rate<=1000000):zM 174 [uR r,iA f3] [] (uR (P3 r f3)) []:=by
 have z:=cH r u;have A:=Nn r.tk u.tk f3;have B:=Bu r.bk zB;unfold P3;generalize ZZ r.tk f3=E,E7 r.bk=C at *;refine eM call174 λF hF=>?_
 exact mt (qL z A B)
def Ou (l:List Tk) (hb:ln l<=1000000):zM 145 [zE yN l,zE yN l] [] (bA true) []:=by
 have hl:=zA yN l;refine eM call145 λF hF=>?_
 refine WW ?_;refine zQ (l) [] [] [1,13,14] [15,1,13,14] Z (λi f4 T U=>⟨(15,iA i)::T,U⟩) (Lq ?_ ?_)
 .intro i f4 x post u hi;have A:=zZ yN u hi;have z:=zV u hi;clear u;refine WW (I3 (λhc=>?_) (λhc hc=>?_) (λhc hc=>?_))
  all_goals (first|rfl|(exfalso;first|(simp[xS]at hc;done)|(revert hc;simp[xS];done)))
 .exact ly
def Nu (l:List Vh) (hb:ln l<=1000000):zM 146 [zE vA l,zE vA l] [] (bA true) []:=by
 have hl:=zA vA l;refine eM call146 λF hF=>?_
 refine WW ?_;refine zQ (l) [] [] [1,12,13] [14,1,12,13] Z (λi f4 T U=>⟨(14,iA i)::T,U⟩) (Lq ?_ ?_)
 .intro i f4 x post u hi;have A:=zZ vA u hi;have z:=zV u hi;clear u
  (repeat' (first|refine uQ ?_|apply yW|apply xG|intro hc|(apply zG;first|refine SE ?_)|fail))
  all_goals (first|rfl|(exfalso;first|(simp[xS]at hc;done)|(revert hc;simp[xS];done)))
 .exact ly
def Mu (a:Ag) (hb:ln a.lim<=1000000):zM 144 [uK a,uK a] [] (bA true) []:=by
 have hl:=zA iA a.lim;refine eM call144 λF hF=>?_
 refine WW ?_;refine zQ (a.lim) [2,3] [2,3] [2,3,15,16] [17,2,3,15,16] Z (λi f4 T U=>⟨(17,iA i)::T,U⟩) (Lq ?_ ?_)
 .intro i f4 x post u hi;have A:=zZ iA u hi;have z:=zV u hi;clear u;refine WW ?_
  all_goals (first|rfl|(exfalso;first|(simp[xS]at hc;done)|(revert hc;simp[xS];done)))
 ·(refine WW (I2 (λhc=>?_) λhc=>?_))
  all_goals (first|(exfalso;first|(simp[xS]at hc;done)|(revert hc;simp[xS];done))|exact zH|(apply vI;(exact zH);simp[vW,xS]))
def Lu (r:Rg) (u:IM r):zM 71 [uR r,uR r] [] (bA true) []:=by
 have z:=Mu r.ag u.l;have A:=Ou r.tk u.tk.n;have B:=Nu r.vh u.v;refine eM call71 λF hF=>?_
 (have ga:=z;have ge:=A;have gn:=B;(repeat' (first|refine uQ ?_|apply yW|apply xG|intro hc|(apply zG;first|refine SE ?_)|fail))<;>clear ga ge gn)
 all_goals (first|exact zH|(apply vI;(exact zH);simp))
def MP (l:List Tk) (hb:IL l):zM 236 [zE yN l] [] (.ref 1001 0 (l.map yN).length) [(1001,.arr 6 (l.map yN) false)]:=by
 have E:=hb.n;have z:=zA yN l;refine eM call236 λF hF=>?_
 (repeat' (first|refine uQ ?_|apply yW|apply xG|intro hc|fail))
 refine zS 3 1001 6 Z Z Z ?_;refine zQ (l) [1001] [] [6,7] [3,8,6,7] Z (λi f4 T U=>⟨(3,.ref 1001 0 (f4.map yN).length)::(8,iA i)::T,(1001,.arr 6 (f4.map yN) true)::U⟩) (Lq ?_ ?_)
 .intro i f4 x post u hi;have I:=zZ yN u hi;have A:=zV u hi;have B:(f4.map yN).length=i:=by rw[zA5,hi]
  have G:=hb.s x (yU u);have C:=zA yA x.sec;have e:(f4++[x]).map yN=f4.map yN++[yN x]:=by simp
  clear u;rw[e];generalize f4.map yN=xs,l.map yN=L at *;refine WL ?_;rfl
 ·(repeat' (first|refine Yf ?_|apply yW|apply xG|intro hc|fail))
  refine kW [1001] [2] Z Z ?_;refine kE 1001 [2] Z Z Z Z Z (xL ?_);exact zP [1001] Z Z Z Z
def Ln (l:List Tk) (hb:IL l):zM 236 [zE yN l] [] (zE yN l) []:=by
 have E:=hb.n;have z:=zA yN l;refine eM call236 λF hF=>?_
 (repeat' (first|refine uQ ?_|apply yW|apply xG|intro hc|fail))
 refine zS 3 1001 6 Z Z Z ?_;refine zQ (l) [1001] [] [6,7] [3,8,6,7] Z (λi f4 T U=>⟨(3,.ref 1001 0 (f4.map yN).length)::(8,iA i)::T,(1001,.arr 6 (f4.map yN) true)::U⟩) (Lq ?_ ?_)
 .intro i f4 x post u hi;have I:=zZ yN u hi;have A:=zV u hi;have B:(f4.map yN).length=i:=by rw[zA5,hi]
  have G:=hb.s x (yU u);have C:=zA yA x.sec;have e:(f4++[x]).map yN=f4.map yN++[yN x]:=by simp
  clear u;rw[e];generalize f4.map yN=xs,l.map yN=L at *;refine WL ?_;rfl
 ·(refine WL ?_)
  exact zI [] Z Z (eJ _ _) Z
def eI (r:Rg) (hb:IM r):zM 186 [uR r] [] (uR r) []:=by
 have c:=Ln r.tk hb.tk;have h1:=hb.s;have h2:=hb.l;have u:=hb.v;have z:=zA yA r.ag.sec;have A:=zA iA r.ag.lim;have B:=zA vA r.vh;refine eM call186 λF hF=>?_
 exact ny c
def ui (a:Ag) (i:Nat):List AV:=yN ⟨true,a.sec,-1,a.rights,a.cls,0⟩::oj i (yN Tb)
def Ku (a:Ag) (A:ln a.sec<=1000000):zM 212 [uK a] [] (zE yN (Lf a)) []:=by
 have u:=zA yA a.sec;obtain⟨N,hN⟩:∃N:Nat,N=7:=⟨7,rfl⟩;refine eM call212 λF hF=>?_
 (repeat' (first|refine jX ?_|apply yW|apply xG|intro hc|(apply zG;first|(apply yI;refine uX (nw:=[1001]) (yX tok 1001 (xs:=[.agg [.s (.bool true),.sl false (a.sec.map yA),.s (.int .i64 (-1)),.s (.int .i64 a.rights),.s (.int .i64 a.cls),.s (.int .i64 0)]]) Z Z Z Z Z Z Z Z Z) Z Z Z ?_)|refine SL ?_)|refine SB ?_|fail))
 refine vS 1001 Z ?_;refine zO (N) [1001] [] [] [3] Z (λi T U=>⟨(3,.ref 1001 0 (ui a i).length)::T,(1001,.arr 6 (ui a i) true)::U⟩) (Lq ?_ ?_)
 .intro i hi;have hl:(ui a i).length=i+1:=by simp[ui]
  have e:ui a (i+1)=ui a i++[yN Tb]:=by unfold ui;rw[zFd];rfl
  have hh:∀y,(ui a i)[0]? =some y->ln y.cells=6:=λy z=>by cases z;rfl
  rw[e];generalize ui a i=xs at*
  (repeat' (first|refine jX ?_|apply yW|apply xG|intro hc|(apply zG;first|(apply yI;refine ZW 17 Z Z Z ?_;refine vE tok Z Z ?_))|refine SB ?_|fail))
  rfl
 .have hl:(ui a N).length=N+1:=by simp[ui]
  rw[show Lf a=Lf a from Z];have e:(ui a N).take (ui a N).length=(Lf a).map yN:=by rw[zA8,hN];rfl
  refine WL ?_;exact zI [] Z Z (zBp (AV.sl false) e) Z
def Ju (n:Int) (a:Ag) (z:ln a.sec<=1000000) (hl:ln a.lim<=1000000):zM 157 [iA n,uK a] [] (uR (PA n a)) []:=by
 have A:=Ku a z;have B:=Cu a.rate a.burst
 have hb:IM (PA n a):=⟨⟨by simp[PA,Lf],λt u=>by
  simp only[PA,Lf,zCt]at u
  rcases u with rfl|u
  .exact z
  .rw[List.eq_of_mem_replicate u];simp[Tb]⟩,z,hl,by simp[PA]⟩
 have C:=eI (PA n a) hb;unfold PA at *;generalize Lf a=E at *;refine eM call157 λF hF=>?_
 exact mt (qL A B C)
def AO (t:Tk):Bool:=decide ((ln t.sec:Int)=8/\0<=t.cls/\t.cls<=3/\0<=t.til/\t.til<=2147483648)
def Jr (t:Tk):Bool:=OD t.rights&&AO t
def FK (t:Tk):zM 389 [yN t] [] (bA (Jr t)) []:=by
 have c:=XF t.rights;have hl:=zA yA t.sec;unfold Jr;generalize OD t.rights=v at *;cases v
 .rw[zB7];refine eM call389 λF hF=>?_
  refine zU c (I2 (λhc=>?_) λhc=>?_)
  all_goals exact zH
 .rw[zBg]
  (cases hb:AO t with|false=>((refine eM call389 λF hF=>?_);((refine zU c (I5 (λhc hc hc hc=>?_) (λhc hc hc hc=>?_) (λhc hc hc=>?_) (λhc hc=>?_) λhc=>?_)));all_goals (first|exact zH|(simp only[AO,zBh]at hb;first|exact MJ|exact OA)))|true=>(simp only[AO,zBb]at hb;(refine eM call389 λF hF=>?_);((refine zU c ?_));all_goals (first|exact zH|exact MJ|exact OA)))
def KG (t:Tk):Bool:=decide ((ln t.sec:Int)=0/\t.par= -1/\t.rights=0/\t.cls=0/\t.til=0)
def dQ (u:Bool) (t:Tk):AV:= .agg [bA u,zE yA t.sec,iA t.par,iA t.rights,iA t.cls,iA t.til]
def Kn (t:Tk):zM 390 [dQ false t] [] (bA (KG t)) []:=by
 have hl:=zA yA t.sec
 (cases hb:KG t with|false=>((refine eM call390 λF hF=>?_);((refine WW (I5 (λhc hc hc hc=>?_) (λhc hc hc hc=>?_) (λhc hc hc=>?_) (λhc hc=>?_) λhc=>?_)));all_goals (first|exact zH|(simp only[KG,zBh]at hb;first|exact MJ|exact OA)))|true=>(simp only[KG,zBb]at hb;(refine eM call390 λF hF=>?_);((refine WW ?_));all_goals (first|exact zH|exact MJ|exact OA)))
def MQ (l:List Tk) (s:Int):Bool:=if(l.getD s.toNat dd).used=true then Jr (l.getD s.toNat dd)&&Xj l s 0&&(md (l.getD s.toNat dd).rights (l.getD (l.getD s.toNat dd).par.toNat dd).rights&&decide ((l.getD s.toNat dd).cls<=(l.getD (l.getD s.toNat dd).par.toNat dd).cls)&& !Ir (l.getD s.toNat dd).til (l.getD (l.getD s.toNat dd).par.toNat dd).til)
 else KG (l.getD s.toNat dd)
def IH (t:Tk):Bool:=t.used&&decide (t.par= -1/\t.til=0)&&Jr t
def PB (l:List Tk):Bool:=decide ((ln l:Int)=8)&&(IH (l.getD 0 dd)&&(pb 7).all λi=>MQ l ((i:Int)+1))
theorem O3 {i:Nat} (hi:i<7) (h:MQ l ((i:Int)+1)=false):PB l=false:=by grind [MQ,PB]
theorem Iu (h:Xj l s 0=true) (u:s≠0):jZ l (l.getD s.toNat dd).par=true:=by
 unfold Xj at h;rw[eX l 7 s]at h
 cases z:jZ l s<;>rw[z]at h
 .simp at h
 .rw[zCk,zGs]at h;have:(s==0)=false:=by simpa using u
  rw[this,zDj,eX l 6]at h
  grind
theorem TJ (l:List Tk):zM 372 [zE yN l] [] (bA (PB l)) []:=by
 have ag:=zA yN l;by_cases h8:(ln l:Int)=8
 case neg=>
  rw[show PB l=false by unfold PB;rw[zA6 h8];rfl];refine eM call372 λF hF=>?_
  exact ly
 have I:=yF yN l 0 zB zB
 change (l.map yN)[0]? =some (yN (l.getD 0 dd))at I
 cases L:IH (l.getD 0 dd)
 .rw [show PB l=false by unfold PB;rw[L];simp];have c:=FK (l.getD 0 dd);unfold IH at L;generalize l.getD 0 dd=t at *;generalize Jr t=q at *;cases B:t.used
  .rw[show yN t=dQ false t by unfold yN dQ;rw[B]]at *; unfold dQ at *;refine eM call372 λF hF=>?_
   exact mx c
  .rw[show yN t=dQ true t by unfold yN dQ;rw[B]]at *; unfold dQ at *;by_cases h1:t.par= -1
   .by_cases h2:t.til=0
    .rw[B,zA7 ⟨h1,h2⟩,zBg,zBg]at L;subst L;refine eM call372 λF hF=>?_
     exact mx c
    ·(refine eM call372 λF hF=>?_)
     exact mx c
   ·(refine eM call372 λF hF=>?_)
    exact mx c
 have M:=FK (l.getD 0 dd);have G:=L;unfold IH at G;simp only[zBe,zBb]at G;obtain⟨⟨B,h1,h2⟩,h3⟩:=G;have A:=I;rw[h3]at M;rw[show yN (l.getD 0 dd)=dQ true (l.getD 0 dd) by unfold yN dQ;rw[B]]at A M;unfold dQ at A M;clear I;generalize ar:l.getD 0 dd=t0 at A M h1 h2;refine eM call372 λF hF=>?_
 refine zU M ?_;refine yV (7) [] [] [0] [4,0] Z (λi T U zs=>(∀s:Nat,s<i->MQ l ((s:Int)+1)=true)/\zs=⟨(4,iA ((i:Int)+1))::T,U⟩) (Lp ?_ ?_ ?_)
 .exact⟨λs hs=>absurd hs (zC0 _),rfl⟩
 .rintro i st hi ⟨hp,rfl⟩
  have E:MQ l ((i:Int)+1)=true->∀s:Nat,s<i+1->MQ l ((s:Int)+1)=true:=λh s hs=>by
   by_cases ac:s=i
   .subst ac;exact h
   .exact hp s zB
  have z:=λh=>O3 (l:=l) hi h
  have Y:=yF yN l ((i:Int)+1) zB zB;have C:=FK (l.getD ((i:Int)+1).toNat dd);have V:=Kn (l.getD ((i:Int)+1).toNat dd);have O:=Rn l ((i:Int)+1) 0;have S:=Iu (l:=l) (s:=(i:Int)+1);have u:MQ l ((i:Int)+1)=_:=rfl
  conv at u=>rhs;unfold MQ
  generalize l.getD ((i:Int)+1).toNat dd=t,MQ l ((i:Int)+1)=tk at *;cases B:t.used
  .rw[show yN t=dQ false t by unfold yN dQ;rw[B]]at Y;rw[B,Os zW]at u;rw[<-u]at V;unfold dQ at Y V;cases tk
   .rw[z Z];exact mx V
   ·(refine zU V ?_)
    exact⟨E Z,by rw[zGh];rfl⟩
  .rw[show yN t=dQ true t by unfold yN dQ;rw[B]]at Y C;rw[B,zA4 Z]at u;unfold dQ at Y C;generalize Jr t=q1 at *;generalize ap:Xj l ((i:Int)+1) 0=q2 at *;cases q1
   .rw[zB7,zB7]at u;rw[z u];exact mx C
   cases q2
   .rw[zBg,zB7]at u;rw[z u];exact mt (xU C O)
   rw[zBg,zBg]at u;obtain⟨p0,p1⟩:=ZY (S Z zB);have au:=yF yN l t.par p0 p1;generalize l.getD t.par.toNat dd=p at *;have W:=AQ t.rights p.rights;have c5:=Df t.til p.til;generalize md t.rights p.rights=q3,Ir t.til p.til=q4 at *;cases q3
   .rw[zB7,zB7]at u;rw[z u];exact mt (qL C O W)
   by_cases R:t.cls<=p.cls
   .rw[zA7 R,zBg,zBg]at u;cases q4
    ·(refine yH (cL C O W c5) ?_)
     exact⟨E u,by rw[zGh];rfl⟩
    .rw[z u];exact mt (cL C O W c5)
   .rw[zA6 R,zBg,zB7]at u;rw[z u];exact mt (cL C O W c5)
 .rintro st ⟨hp,rfl⟩
  rw[show PB l=true by
   unfold PB;rw[zA7 h8,L,zBg,zBg]
   exact zBi.2 λi hi=>hp i (zBv.1 hi)]
  exact ly
def YB (l:List Tk):Nat->Int->Int->Bool
 |0,_,_=>false
 |n+1,f,t=>jZ l f&&(f==t||YB l n (l.getD f.toNat dd).par t)
def MR (l:List Tk) (n:Nat) (f t:Int):YB l (n+1) f t=(jZ l f&&(f==t||YB l n (l.getD f.toNat dd).par t)):=rfl
theorem Hn (l:List Tk) (t:Int):∀(n:Nat) (f:Int),YB l n f t=(ZX l n f).any λa=>a==t
 |0,_=>rfl
 |n+1,f=>by
  rw[MR,eX];cases jZ l f
  .rfl
  .rw[zCk,zGs,Hn l t n,zBg]
def Jf (l:List Tk) (f t:Int) (G:ln l<=1000000):zM 286 [zE yN l,iA f,iA t] [] (bA (YB l (ln l+1) f t)) []:=by
 have hl:=zA yN l;generalize C:YB l (ln l+1) f t=R;refine eM call286 λF hF=>?_
 refine WW ?_;refine yV (ln l+1) [] [] [0,2] [1,7,0,2] Z (λi T U E=>∃(a:Int),(R=YB l (ln l+1-i) a t)/\E=⟨(1,iA a)::(7,iA i)::T,U⟩) (Lp ?_ ?_ ?_)
 .exact⟨f,C.symm,rfl⟩
 .rintro i st hi ⟨a,hp,rfl⟩;obtain⟨k,hk⟩:∃k,ln l+1-i=k+1:=⟨ln l-i,zB⟩;rw[hk,MR l k a t]at hp;have hk':ln l+1-(i+1)=k:=by omega
  unfold jZ at hp;by_cases A:0<=a
  .by_cases h1:a<ln l
   .have z:=yF yN l a A h1;rw[zA7 ⟨A,h1⟩,zBg]at hp;generalize l.getD a.toNat dd=x at *;cases u:x.used
    .rw[u,zB7]at hp;rw[show yN x=dQ false x by unfold yN dQ;rw[u]]at z;unfold dQ at z;rw[hp];exact ly
    .rw[u,zBg]at hp;rw[show yN x=dQ true x by unfold yN dQ;rw[u]]at z;unfold dQ at z;by_cases B:a=t
     .rw[show(a==t)=true by simpa using B,zDs]at hp;rw[hp];exact ly
     .rw[show(a==t)=false by simpa using B,zDj]at hp;refine WW ?_;exact⟨x.par,by rw[hk'];exact hp,by rw[zGh];rfl⟩
   .rw[zA6 zB]at hp;simp only[zB7]at hp;rw[hp];exact ly
  .rw[zA6 zB]at hp;simp only[zB7]at hp;rw[hp];exact ly
 .rintro st ⟨a,hp,rfl⟩;rw[zEb]at hp;rw[hp];exact ly
def dK (l:List Tk) (s:Nat):Bool:=if(l.getD s dd).used=true then Jr (l.getD s dd)&&YB l (ln l+1) s 0&&(decide (s=0)||(md (l.getD s dd).rights (l.getD (l.getD s dd).par.toNat dd).rights&&decide ((l.getD s dd).cls<=(l.getD (l.getD s dd).par.toNat dd).cls)&& !Ir (l.getD s dd).til (l.getD (l.getD s dd).par.toNat dd).til))
 else KG (l.getD s dd)
def YC (t:Tk):Bool:=t.used&&decide (t.par= -1/\t.til=0)
def aT (l:List Tk):Bool:=decide ((ln l:Int)=8)&&(YC (l.getD 0 dd)&&(pb (ln l)).all λi=>dK l i)
theorem Hu {i:Nat} (hi:i<ln l) (h:dK l i=false):aT l=false:=by grind [dK,aT]
theorem Gu (h:YB l (n+1) s 0=true) (u:s≠0):jZ l (l.getD s.toNat dd).par=true:=by
 rw[MR l n s 0]at h;have:(s==0)=false:=by simpa using u
 rw[this,zDj,zBe]at h
 cases n with
 |zero=>exact absurd h.2 (by simp[YB])
 |succ n=>
  grind [YB,jZ]
theorem RL (l:List Tk):zM 363 [zE yN l] [] (bA (aT l)) []:=by
 have ap:=zA yN l;by_cases h8:(ln l:Int)=8
 case neg=>
  rw[show aT l=false by unfold aT;rw[zA6 h8];rfl];refine eM call363 λF hF=>?_
  exact ly
 have R:=yF yN l 0 zB zB
 change (l.map yN)[0]? =some (yN (l.getD 0 dd))at R
 cases M:YC (l.getD 0 dd)
 .rw [show aT l=false by unfold aT;rw[M];simp];unfold YC at M;generalize l.getD 0 dd=t at *;cases G:t.used
  .rw[show yN t=dQ false t by unfold yN dQ;rw[G]]at *; unfold dQ at *;refine eM call363 λF hF=>?_
   exact ly
  .rw[show yN t=dQ true t by unfold yN dQ;rw[G]]at *; unfold dQ at *;rw[G,zBg]at M;by_cases h1:t.par= -1
   .by_cases h2:t.til=0
    .rw[zA7 ⟨h1,h2⟩]at M;cases M
    ·(refine eM call363 λF hF=>?_)
     exact ly
   ·(refine eM call363 λF hF=>?_)
    exact ly
 have O:=M;unfold YC at O;simp only[zBe,zBb]at O;obtain⟨G,h1,h2⟩:=O;have A:=R;rw[show yN (l.getD 0 dd)=dQ true (l.getD 0 dd) by unfold yN dQ;rw[G]]at A;unfold dQ at A;clear R;generalize av:l.getD 0 dd=t0 at A h1 h2;refine eM call363 λF hF=>?_
 refine WW ?_;clear A;refine yV (ln l) [] [] [0,30,31] [32,0,30,31] Z (λi T U zs=>(∀s:Nat,s<i->dK l s=true)/\zs=⟨(32,iA i)::T,U⟩) (Lp ?_ ?_ ?_)
 .exact⟨λs hs=>absurd hs (zC0 _),rfl⟩
 .rintro i st hi ⟨hp,rfl⟩
  have E:dK l i=true->∀s:Nat,s<i+1->dK l s=true:=λh s hs=>by
   by_cases ag:s=i
   .subst ag;exact h
   .exact hp s zB
  have z:=λh=>Hu (l:=l) hi h
  have Y:=zJ yN l i hi;have I:=XG (l.getD i dd).rights;have L:=Jf l i 0 zB;have B:=Gu (l:=l) (n:=ln l) (s:=i);rw[zBu]at B;have u:dK l i=_:=rfl
  conv at u=>rhs;unfold dK
  generalize l.getD i dd=t,dK l i=tk at *;have au:=zA yA t.sec;cases G:t.used
  .rw[show yN t=dQ false t by unfold yN dQ;rw[G]]at Y;rw[G,Os zW]at u;unfold dQ at Y;cases tk
   .rw[z Z];refine WW (I6 (λhc=>?_) (λhc hc=>?_) (λhc hc hc=>?_) (λhc hc hc hc=>?_) (λhc hc hc hc hc=>?_) (λhc hc hc hc hc=>?_))
    all_goals (first|exact zH|(exfalso;simp only[KG]at u;have:=zFi u.symm;omega))
   .have hq:=u.symm;simp only[KG,zBb]at hq;refine WW ?_
    all_goals (first|exact⟨E Z,rfl⟩|exact MJ)
  .rw[show yN t=dQ true t by unfold yN dQ;rw[G]]at Y;rw[G,zA4 Z]at u;unfold dQ at Y;unfold Jr at u;generalize OD t.rights=q0 at *;generalize ar:YB l (ln l+1) i 0=q2 at *;cases q0
   .simp only[zB7]at u;rw[z u];refine zU I (I2 (λhc=>?_) λhc=>?_)
    all_goals exact zH
   cases C:AO t
   .rw[C]at u;simp only[zC4,zB7]at u;rw[z u]
    (have ga:=I;have ge:=L;(repeat' (first|refine uQ ?_|apply yW|apply xG|intro hc|(apply zG;first|refine SM ?_)|fail))<;>clear ga ge)
    all_goals (first|exact zH|(exfalso;simp only[AO,zBh]at C;omega))
   have ac:=C;simp only[AO,zBb]at ac;rw[C]at u;cases q2
   .simp only[zBg,zB7]at u;rw[z u];exact mt (xU I L)
   by_cases V:i=0
   .rw[zA7 V]at u;simp only[zBg,zDs]at u;refine yH (xU I L) ?_;exact⟨E u,rfl⟩
   rw[zA6 V]at u;simp only[zBg,zDj]at u;obtain⟨p0,p1⟩:=ZY (B Z zB);have ax:=yF yN l t.par p0 p1;generalize l.getD t.par.toNat dd=p at *;have W:=II t.rights p.rights;have c5:=AR t.til p.til;generalize md t.rights p.rights=q3,Ir t.til p.til=q4 at *;clear B C;cases q3
   .rw[zB7,zB7]at u;rw[z u];exact mt (qL I L W)
   by_cases S:t.cls<=p.cls
   .rw[zA7 S,zBg,zBg]at u;cases q4
    ·(refine yH (cL I L W c5) ?_)
     exact⟨E u,rfl⟩
    .rw[z u];exact mt (cL I L W c5)
   .rw[zA6 S,zBg,zB7]at u;rw[z u];exact mt (cL I L W c5)
 .rintro st ⟨hp,rfl⟩
  rw[show aT l=true by
   unfold aT;rw[zA7 h8,M,zBg,zBg]
   exact zBi.2 λi hi=>hp i (zBv.1 hi)]
  exact ly
def Hf (l:List Tk) (s:Int) (C:ln l=8):zM 237 [zE yN l,iA s] [] (iA (gA (λi=>YB l (ln l+1) i s) 8)) []:=by
 have hl:=zA yN l;generalize B:(λi:Nat=>YB l (ln l+1) i s)=p;refine eM call237 λF hF=>?_
 refine WW ?_;refine zO ((l.map yN).length) [] [] [0,1,8] [5,9,0,1,8] Z (λi T U=>⟨(5,iA (gA p i))::(9,iA i)::T,U⟩) (Lq ?_ ?_)
 .intro i hi;have hi':i<8:=by omega
  have c:=Jf l i s zB;have hb:=VQ p i zB;have A:=AL i zB;rw[show YB l (ln l+1) i s=p i by rw[<-B]]at c
  have e:gA p (i+1)=if p i=true then gA p i+p2 i else gA p i:=rfl
  rw[e];generalize gA p i=b at *;cases u:p i
  .rw[u]at c;simp only[zF6,zF1];refine zU c ?_;rfl
  .rw[u]at c;simp only[zE7];refine zU c ?_;rfl
 .have z:(l.map yN).length=8:=by omega
  rw[z];exact ly
def RM (p:Nat->Bool) (l:List Tk) (n:Nat):List Tk:=(pb (ln l)).map λj=>if j<n/\p j=true then Tb else l.getD j dd
theorem FL (p:Nat->Bool) (l:List Tk) (n:Nat):(RM p l n).length=ln l:=by simp[RM]
theorem Gn (p:Nat->Bool) (l:List Tk):RM p l 0=l:=by apply zCe<;>grind [RM,List.getElem?_range,pi,List.getElem?_eq_none]
theorem N3 (p:Nat->Bool) (l:List Tk) (n:Nat) (h:n<ln l):(RM p l n)[n]? =some (l.getD n dd):=by grind [RM]
theorem Cn (p:Nat->Bool) (l:List Tk) (n:Nat):RM p l (n+1)=if p n=true then(RM p l n).set n Tb else RM p l n:=by apply zCe<;>grind [RM,Tb,List.getElem?_range,List.getElem?_eq_none,Bool.false_eq_true,FL]
def Gf (l:List Tk) (hb:IL l) (p:Nat->Bool) (O:ln l=8):zM 238 [zE yN l,iA (gA p 8)] [] (zE yN (RM p l 8)) []:=by
 have c:=MP l hb;have L:=zA yN l;have I:=VQ p 8 zB;have B:=zg p;generalize gA p 8=b at *;refine eM call238 λF hF=>?_
 refine zU c ?_;refine zO ((l.map yN).length) [1001] [] [1,5,10] [11,1,5,10] Z (λi T U=>⟨(11,iA i)::T,(1001,.arr 6 ((RM p l i).map yN) false)::U⟩) ?_;(conv=>whnf);refine⟨by(rw[Gn];rfl),?_,?_⟩
 .intro i hi;have hi':i<ln l:=by omega
  have R:((RM p l i).map yN)[i]? =some (yN (l.getD i dd)):=by rw[zBd,N3 p l i hi'];rfl
  have z:=Cn p l i;have u:=B i zB;have M:i<((RM p l i).map yN).length:=by rw[zA5,FL];exact hi'
  cases C:p i
  .rw[C]at u z;simp only[zF6,zF1]at z;rw[z];have A:jJ (vV b i) 1≠1:=by simpa using u
   generalize (RM p l i).map yN=xs at *;refine WW ?_;rfl
  .rw[C]at u z;simp only[zE7]at z;have A:jJ (vV b i) 1=1:=by simpa using u
   have E:(RM p l (i+1)).map yN=((RM p l i).map yN).set i (yN Tb):=by rw[z,zCs]
   generalize (RM p l i).map yN=xs,(RM p l (i+1)).map yN=ys at *;subst E
   (repeat' (first|refine WTR ?_|apply yW|apply xG|intro hc|(apply zG;first|(apply cA;refine ZW 22 Z Z Z ?_;refine yn tok Z Z Z WC Z Z Z Z Z Z ?_))|refine SB ?_|fail))
   rfl
 .have G:(l.map yN).length=8:=by omega
  rw[G];refine WW ?_;exact zI [] Z Z (zBp (AV.sl false) (zBf (by simp[FL];omega))) Z
theorem Bn:∀(n:Nat) (f:Nat->Nat),(∀i,i<=n->f i<n)->∃i j,i<j/\j<=n/\f i=f j
 |0,f,h=>absurd (h 0 (zBa _)) (zC0 _)
 | n+1,f,h=>by
  by_cases u:∃i,i<=n/\f i=f (n+1)
  .obtain⟨i,h1,h2⟩:=u;exact⟨i,n+1,zB,zBa _,h2⟩
  .obtain⟨i,j,h1,h2,z⟩:=Bn n (λi=>if f i<f (n+1)then f i else f i-1) λi hi=>by
    have A:=h i zB;have B:=h (n+1) (zBa _);have C:f i≠f (n+1):=λe=>u ⟨i,hi,e⟩
    split<;>omega
   refine⟨i,j,h1,zB,?_⟩;have A:f i≠f (n+1):=λe=>u ⟨i,zB,e⟩
   have B:f j≠f (n+1):=λe=>u ⟨j,h2,e⟩
   split at z<;>split at z<;>omega
def par (l:List Tk) (s:Int):Int:=(l.getD s.toNat dd).par
def AP (l:List Tk) (s:Int):Nat->Int
 |0=>s
 |k+1=>par l (AP l s k)
theorem YD (l:List Tk) (s:Int):∀k,AP l s (k+1)=AP l (par l s) k
 |0=>rfl
 |k+1=>by rw[AP,YD l s k];rfl
theorem FM (l:List Tk) (s:Int) (i:Nat):∀k,AP l s (i+k)=AP l (AP l s i) k
 |0=>rfl
 |k+1=>by rw[<-zGd,AP,FM l s i k];rfl
theorem XE (l:List Tk) (t:Int):∀(n:Nat) (s:Int),t∈ZX l n s↔∃k,k<n/\(∀j,j<=k->jZ l (AP l s j)=true)/\AP l s k=t
 |0,s=>by simp[ZX]
 | n +1,s=>by
  rw[eX];constructor
  .intro h;cases u:jZ l s
   .rw[u]at h;simp at h
   .rw[u,zCk,zCt]at h
    rcases h with rfl|h
    .exact⟨0,zB,λj hj=>by rw[Nat.le_zero.1 hj];exact u,rfl⟩
    .obtain⟨k,h1,h2,z⟩:=(XE l t n _).1 h;refine⟨k+1,zB,λj hj=>?_,by rw[YD];exact z⟩
     cases j with
     |zero=>exact u
     |succ j=>rw[YD];exact h2 j zB
  .rintro⟨k,h1,h2,z⟩;have u:=h2 0 (zBn _)
   change jZ l s=true at u
   rw[u,zCk,zCt]
   cases k with
   |zero=>exact .inl z.symm
   |succ k=>
    rw[YD]at z;refine .inr ((XE l t n _).2 ⟨k,zB,λj hj=>?_,z⟩);have:=h2 (j+1) zB;rw[YD]at this;exact this
theorem An (I:ln l=8) (s t:Int) (n:Nat) (h:t∈ZX l n s):t∈ZX l 8 s:=by
 obtain⟨k,_,h2,u⟩:=(XE l t n s).1 h;clear h
 suffices ∀m k,k<=m->(∀j,j<=k->jZ l (AP l s j)=true)->AP l s k=t->t∈ZX l 8 s from this k k (zBa _) h2 u
 intro m
 induction m with
 |zero=>intro k hk h2 u;exact(XE l t 8 s).2 ⟨k,zB,h2,u⟩
 | succ m z=>
  intro k hk h2 u;by_cases h:k<8
  .grind [ZX,XE]
  obtain⟨i,j,C,E,G⟩:=Bn 8 (λi=>(AP l s i).toNat) λi hi=>by
   have:=ZY (h2 i zB);omega
  have e1:=ZY (h2 i zB);have A:=ZY (h2 j zB);have e3:AP l s i=AP l s j:=by omega
  have B:∀r,AP l s (i+r)=AP l s (j+r):=λr=>by rw[FM,FM,e3]
  refine z (i+(k-j)) zB (λr L=>h2 r zB) ?_
  grind
theorem zo (l:List Tk) {m:Nat} (u:n<=m) (h:t∈ZX l n s):t∈ZX l m s:=by grind [ZX,XE]
inductive Ff (l:List Tk):Int->Int->Prop
 |base (s:Int):jZ l s=true->Ff l s s
 |step (s t:Int):jZ l s=true->Ff l (par l s) t->Ff l s t
theorem FN (l:List Tk) (t:Int):∀(n:Nat) (s:Int),t∈ZX l n s->Ff l s t
 |0,s,h=>by simp[ZX]at h
 | n+1,s,h=>by
  rw[eX]at h;cases u:jZ l s
  .rw[u]at h;simp at h
  .rw[u,zCk,zCt]at h
   rcases h with rfl|h
   .exact .base _ u
   .exact .step _ _ u (FN l t n _ h)
theorem FO (h:Ff l s t):∃n,t∈ZX l n s:=by
 induction h with
 |base s u=>exact⟨1,by rw[eX,u,zCk];exact List.mem_cons_self⟩
 |step s t u _ A=>
  obtain⟨n,z⟩:=A;exact⟨n+1,by rw[eX,u,zCk];exact List.mem_cons_of_mem _ z⟩
theorem RN (u:ln l=8) (s t:Int):YB l 9 s t=true↔Ff l s t:=by
 rw[Hn,zCw];constructor
 .grind [YB,FN]
 .intro h;obtain⟨n,z⟩:=FO h;exact⟨t,zo l zB (An u s t n z),by simp⟩
theorem M3 (u:ln l=8) (s t:Int):Xj l s t=true↔Ff l s t:=by grind [Xj,List.any_eq_true,FN,FO,An]
theorem Vy (u:ln l=8) (s t:Int):Xj l s t=YB l 9 s t:=by
 rw[zFq,M3 u,RN u]
theorem Ef (l:List Tk):PB l=aT l:=by
 unfold PB aT;by_cases z:ln l=8
 case neg=>rw[zA6 zB];rfl
 rw[zA7 zB,zBg,zBg,z,zFq];simp only[zBe,zBi,zBv]
 have A:∀i:Nat,i<7->(MQ l ((i:Int)+1)=dK l (i+1)):=λi hi=>by
  unfold MQ dK;rw[Vy z,z,show(((i+1:Nat):Int)=(i:Int)+1) by omega,show((i:Int)+1).toNat=i+1 by omega,zA6 (by omega:¬i+1=0),zDj]
 constructor
 .rintro⟨h1,h2⟩;unfold IH at h1;simp only[zBe,zBb]at h1;obtain⟨⟨u,p,q⟩,r⟩:=h1;refine⟨by unfold YC;rw[u,p,q];rfl,λi hi=>?_⟩
  cases i with
  |zero=>
   grind [PB,aT,dK,YB,RN,jZ]
  |succ i=>rw[<-A i zB];exact h2 i zB
 .rintro⟨h1,h2⟩;have B:=h2 0 zB
  grind [PB,aT,YC,dK,IH]
structure TV (l:List Tk):Prop where
 n:l.length=8
 u:(l.getD 0 default).used=true
 p:(l.getD 0 default).par= -1
 e:(l.getD 0 default).til=0
 f:∀i,i<8->(l.getD i default).used=false->KG (l.getD i default)=true
 s:∀i,i<8->(l.getD i default).used=true->Jr (l.getD i default)=true/\Ff l i 0/\(i≠0->md (l.getD i default).rights (l.getD (l.getD i default).par.toNat default).rights=true/\(l.getD i default).cls<=(l.getD (l.getD i default).par.toNat default).cls/\Ir (l.getD i default).til (l.getD (l.getD i default).par.toNat default).til=false)
theorem L3 (l:List Tk):aT l=true↔TV l:=by
 unfold aT;simp only[zBe,zBb,zBi,zBv];constructor
 .rintro⟨z,h1,h2⟩;have z:ln l=8:=by omega
  unfold YC at h1;simp only[zBe,zBb]at h1;refine⟨z,h1.1,h1.2.1,h1.2.2,λi hi A=>?_,λi hi A=>?_⟩
  .grind [aT,dK]
  .have:=h2 i zB;unfold dK at this;rw[zA4 A,z]at this;simp only[zBe,zDh,zBb,zDm]at this
   grind [aT,RN]
 .rintro⟨z,u,p,e,f,s⟩;refine⟨zB,by unfold YC;rw[u,p,e];rfl,λi hi=>?_⟩;unfold dK;cases A:(l.getD i dd).used
  .grind
  .rw[zA4 Z,z];obtain⟨a,b,c⟩:=s i zB A;simp only[zBe,zDh,zBb,zDm]
   grind [aT,RN]
theorem Fu (l:List Tk) (s:Int):jZ l s=true↔∃i:Nat,s=i/\i<ln l/\(l.getD i dd).used=true:=by grind [jZ]
theorem Ff.us (h:Ff l s t):jZ l s=true:=by
 cases h<;>assumption
theorem Ff.trans {u:Int} (h:Ff l s t) (g:Ff l t u):Ff l s u:=by
 induction h with
 |base _ _=>exact g
 |step s t z _ A=>exact .step _ _ z (A g)
theorem J3 (u:ln l=8) (f3:Int):ZZ l f3=RM (λj=>(pb 8).any λi=>jZ l i&&Ub (l.getD i dd) f3&&YB l 9 j i) l 8:=by
 unfold ZZ RM;rw[u];apply List.map_congr_left;intro j hj;rw[zBv]at hj;unfold AN
 have:((ZX l 8 j).any λa=>Ub (l.getD a.toNat dd) f3)=((pb 8).any λi=>jZ l i&&Ub (l.getD i dd) f3&&YB l 9 j i):=by
  rw[zFq,zCw,zCw];constructor
  .rintro⟨a,h1,h2⟩;have z:=od _ _ _ h1
   grind [ZZ,RM,jZ,Ub,YB,Fu,Int.toNat_natCast,RN,FN]
  .rintro⟨i,_,h2⟩;simp only[zBe]at h2
   grind [ZZ,RM,jZ,Ub,YB,FO,RN,An,Int.toNat_natCast]
 grind
def uH (n a b:Int):Bool:=decide (a<=n/\n<=b)
def fU (n a b:Int):zM 148 [iA n,iA a,iA b] [] (bA (uH n a b)) []:=by
 (cases hb:uH n a b with|false=>((refine eM call148 λF hF=>?_);((refine WW (I2 (λhc=>?_) λhc=>?_)));all_goals (first|exact zH|(simp only[uH,zBh]at hb;first|exact MJ|exact OA)))|true=>(simp only[uH,zBb]at hb;(refine eM call148 λF hF=>?_);((refine WW ?_));all_goals (first|exact zH|exact MJ|exact OA)))
structure Uy (a:Ag):Prop where
 s:(a.sec.length:Int)=8
 l:(a.lim.length:Int)=4
 li:∀n∈a.lim,0<=n/\n<=8
 r:0<=a.rights/\a.rights<=63
 c:0<=a.cls/\a.cls<=3
 q:0<=a.req/\a.req<=4
 e:1<=a.ses/\a.ses<=2
 b:0<=a.burst/\a.burst<=1000
 t:0<=a.rate/\a.rate<=a.burst
def a0:Ag:=⟨cO 1,1,0,[1,1,1,1],0,1,0,2⟩
theorem gZ (n:Int):(cO n).length=8:=by simp[cO]
def Eu (n:Int):0<=IntKind.u8.wrap n/\IntKind.u8.wrap n<256:=by
 have:IntKind.u8.wrap n=n % 256:=rfl;omega
theorem OC (n:Int):BY (cO n):=λx u=>by
 unfold cO at u;rw[zCo]at u;obtain⟨i,_,rfl⟩:=u;exact Eu _
theorem yo {g:Int} {l:List Int} (z:0<=g/\g<256) (A:0<=s/\s<256) (hl:BY l):BY (g::s::l):=λx u=>by
 simp only[zCt]at u
 rcases u with rfl|rfl|u
 .exact z
 .exact A
 .exact hl x u
theorem F7 (n:Int) (a:Ag) (h:Uy a):IM (PA n a):=by
 have h1:=h.s;have h2:=h.l;refine⟨⟨by simp[PA,Lf],λt u=>?_⟩,by unfold PA;dsimp only;omega,by unfold PA;dsimp only;omega,by simp[PA]⟩
 grind [PA,Lf,Tb]
section
open Go.RowKit
def LIn (k:IntKind) (w:World) (A:Option Addr) (n c:Nat) (xs:List Int):Prop:=
 (ln xs)=n/\n<=c/\c<=9223372036854775807/\(0<n->∃b o,A=some ⟨b,o,none⟩/\b<w.heap.size/\∀j,j<n->w.cell? ⟨b,o+j,none⟩=some (.int k (xs.getD j 0)))
theorem LIn.of_row {a:Option Addr} {len cap:Nat} {z:List Int}
 (h:(a=none/\len=0/\cap=0/\z=[])\/∃x,a=some x/\len<=cap/\cap<=maxLen/\z.length=cap/\(∀i,i<ln z->w.cell? (x.add i)=some (.int k (z.getD i 0)))/\∀n∈z,(Lit.int k n).wf=true):
  LIn k w a len cap (z.take len):=by
 rcases h with⟨rfl,rfl,rfl,rfl⟩|⟨x,rfl,h1,h2,G,C,_⟩
 .grind [LIn]
 .refine⟨by simp;omega,h1,by unfold maxLen at h2;omega,λI=>?_⟩;obtain⟨b,off,A⟩:=x;have hc:=C 0 zB;have u:A=none:=by simpa [Addr.add]using World.cell?_spot hc
  subst u;have B:w.cell? ⟨b,off,none⟩=some (.int k (z.getD 0 0)):=by simpa [Addr.add]using hc
  refine⟨b,off,rfl,World.block_lt_of_cell? w _ B,λj hj=>?_⟩;have E:=C j zB
  have e:(⟨b,off,none⟩:Addr).add j=⟨b,off+j,none⟩:=by unfold Addr.add;split<;>simp_all
  grind
theorem LIn.repf {A:Option Addr} {c:Nat} {xs:List Int} (h:LIn k w A n c xs) {D:Nat->Prop} (E:∀b,¬D b):xM w D (.sl false (xs.map λn=> .s (.int k n))) (.slice A n c):=by
 obtain⟨rfl,h2,I,C⟩:=h
 cases B:xs with
 |nil=>exact .nil A c
 | cons x r=>
  rw[<-B];obtain⟨b,o,rfl,hb,hc⟩:=C (by rw[B];simp)
  have:=xM.sl (w:=w) (D:=D) false (xs.map λn=>AV.s (.int k n)) b o 1 c (λi _=> .int k (xs.getD i 0)) (by rw[B];simp)
   ⟨hb,E b,zBa _,by simp[cB];omega,λi y u=>by
    rw[zBd,zBo]at u;obtain⟨z,_,rfl⟩:=u
    rfl,λi j hi hj=>by
    obtain rfl:j=0:=by omega
    rw[Nat.mul_one,zDv]
    exact hc i NI,λ_ _ _ _=>rfl⟩ JK (λi y j v u hv=>by
    rw[zBd,zBo]at u;obtain⟨z,G,rfl⟩:=u
    cases j with
    |zero=>
     simp[AV.cells]at hv;subst hv;have:xs.getD i 0=z:=by simp[pi,G]
     rw[this];exact .s _
    |succ j=>simp[AV.cells]at hv)
  simpa using this
theorem xO.law {P:Program} {f:Nat} {args:List AV} (h:xO P f args [] (.s (.bool true)) []) {u:Array Value} {w:World} (hl:u.size=ln args)
  (B:∀(i:Nat) v,args[i]? =some v->xM w (xV (λ_=>False) λ_=>[]) v (u.getD i undef)):Calls P f u w λe w'=>e= .returned (.bool true)/\Below w.heap.size w w':=by
 have H:jM (λ_=>False) (zD []) (λ_=>[]) w:=⟨λk e z=>by simp[zD]at z,λ_ _=>rfl,λk C b n E h1 _=>by simp at h1,λk b n h1=>by simp at h1,λb hd=>by
  rcases hd with hd|⟨_,_,hd⟩
  .exact hd.elim
  .simp at hd⟩
 refine Calls.mono (h.sim (λ_=>False) w (λ_=>[]) u hl H λi v hv=> .fz _ _ (B i v hv)) ?_;rintro e w' ⟨c,β',rfl,G,hc⟩;have:c= .bool true:=hc.s_inv;subst this;exact⟨rfl,G.os,G.tape,G.output,G.size,λk hk=>G.keep k hk λ_ _ A=>by simp at A⟩
def dom0:∀b,¬xV (λ_=>False) (λ_=>[]) b:=λb hd=>by
 rcases hd with hd|⟨_,_,hd⟩
 .exact hd
 .simp at hd
def YE (w:World):List AV->List Value->Prop
 | [],[]=>True
 |a::r,c::s=>xM w (xV (λ_=>False) λ_=>[]) a c/\YE w r s
 |_,_=>False
theorem YE.len :∀{l:List AV} {s:List Value},YE w l s->ln s=ln l
 | [],[],_=>rfl
 |_::_,_::_,h=>by simp[YE.len h.2]
 | [],_::_,h=>h.elim
 |_::_,[],h=>h.elim
theorem YE.at :∀{l:List AV} {s:List Value},YE w l s->∀(i:Nat) v,l[i]? =some v->xM w (xV (λ_=>False) λ_=>[]) v (s.getD i undef)
 | [],[],_,i,v,hv=>by simp at hv
 |a::_,c::_,h,0,v,hv=>by simp at hv;subst hv;exact h.1
 |_::_,_::_,h,i+1,v,hv=>by simpa using YE.at h.2 i v CH
 | [],_::_,h,_,_,_=>h.elim
 |_::_,[],h,_,_,_=>h.elim
theorem xO.lawL {P:Program} {f:Nat} {args:List AV} (h:xO P f args [] (.s (.bool true)) []) {cs:List Value} {w:World} (u:YE w args cs):Calls P f cs.toArray w λe w'=>e= .returned (.bool true)/\Below w.heap.size w w':=
 h.law (by simpa using u.len) λi v hv=>by simpa [zB3,pi]using u.at i v hv
theorem LIn.le {A:Option Addr} {c:Nat} {xs:List Int} (h:LIn k w A n c xs):ln xs<=9223372036854775807:=by grind [LIn]
end
