/- Part 9. -/
import Derived.Test.YtaglbcjljlkjcaaGreatX08
import Derived.WalkKit
import Derived.ProofKit
namespace Go.Proofs.YtaglbcjljlkjcaaGreat.Av
open Tryz
set_option linter.all false
set_option maxRecDepth 4000
set_option maxHeartbeats 1000000
open List renaming length->ln,replicate->pb,range->pi,getD->py
open Inhabited renaming default->dd
variable {s t:Int}{k:IntKind}{l:List Tk}{n:Nat}{w:World}
def ZY (l:List Tk):Nat->Int->List Int
 |0,_=>[]
 |n+1,s=>bif jZ l s then s::ZY l n (l.getD s.toNat dd).par else []
def eW (l:List Tk) (k:Nat) (a:Int):ZY l (k+1) a=bif jZ l a then a::ZY l k (l.getD a.toNat dd).par else []:=rfl
theorem ZZ (h:jZ l s=true):0<=s/\s<ln l:=by grind [jZ]
theorem ud :∀(n:Nat) (s x:Int),x∈ZY l n s->jZ l x=true
 |0,s,x,h=>by simp[ZY]at h
 | n+1,s,x,h=>by
  unfold ZY at h
  cases u:jZ l s<;>rw[u]at h
  .simp at h
  .rw[zCm,zCt]at h
   rcases h with rfl|h
   .exact u
   .exact ud n _ x h
def Rn (l:List Tk) (s:Int):List (Nat×xV):=[(1003,.box [iA s]),(1004,.box [zE yN l])]
def Vy (l:List Tk) (s:Int):zO 263 [zE yN l,iA s] [] (.fn 302 [.ptr 1003 0 0,.ptr 1004 0 0]) (Rn l s):=by
 refine eM call263 λF hF=>?_
 repeat' (first|(apply zG;first|refine qA (dN (v:=AV.sl _ _) 1004 Z Z) Z Z Z ?_|refine qA (dN (v:=AV.s _) 1003 Z Z) Z Z Z ?_|refine uN tok Z Z ?_|apply kR)|(first|apply xY|apply xR|refine uD Z ?_|refine yR Z ?_|refine yC Z ?_|refine wA Z (λhc=>?_) λhc=>?_|apply xJ|apply xL|apply xO|apply xC))
 exact zP [1003,1004] Z Z Z Z
def Qn (l:List Tk) (s:Int):UQ prog 302 [.ptr 1003 0 0,.ptr 1004 0 0] (Rn l s) ((ZY l 8 s).map λx=>[iA x]):=by
 have hl:=zA yN l;refine VB func302 Z (λargs w=>call302 args w) Z Z Z (λF y I z G=>?_);unfold Rn;refine WW ?_;refine yU (8) [1003,1004] [1003,1004] [0,2] [4,6,1000000,0,2] Z (λi T U L=>∃(a:Int) (f4:List Int),(ZY l 8 s=f4++ZY l (8-i) a/\f4.length=i)/\L=⟨(4,iA a)::(6,iA i)::(1000000,.gh i)::T,U⟩) (Lp ?_ ?_ ?_)
 .exact⟨s,[],⟨rfl,rfl⟩,rfl⟩
 .rintro i st hi ⟨a,f4,⟨hp,hpl⟩,rfl⟩;have c:=Zd l a;obtain⟨k,hk⟩:∃k,8-i=k+1:=⟨7-i,zB⟩;rw[hk,eW l k a]at hp
  cases C:jZ l a<;>rw[C]at c hp
  .rw[zC7,zB0]at hp;refine zS c ?_;exact UR Z (.inl (by rw[zA6,hp,hpl]))
  .rw[zCm]at hp;obtain⟨E,h1⟩:=ZZ C;have M:=yF yN l a E h1;have u:((ZY l 8 s).map λx=>[iA x])[i]? =some [iA a]:=by rw[hp];simp[<-hpl]
   have B:i<((ZY l 8 s).map λx=>[iA x]).length:=(zBw.1 u).1;generalize ((ZY l 8 s).map λx=>[iA x])=xs at *;have A:ZY l 8 s=(f4++[a])++ZY l (8-(i+1)) (l.getD a.toNat dd).par:=by rw[hp,show 8-(i+1)=k by omega];simp
   generalize l.getD a.toNat dd=t at*
   (repeat' (first|refine uT ?_|apply yW|apply xH|intro hc|(apply zG;apply xQ;first|(first|(refine vJ 303 ?_;first|refine wJ (zL (c) Z Z Z Z Z) Z ?_|refine qA (zL (c) Z Z Z Z Z) Z Z Z ?_|refine aO (zL (c) Z Z Z Z Z) Z Z Z ?_))|(apply nf;refine GR z G Z Z u Z Z Z ?_ ?_))|(apply zG;first|refine SM ?_)|fail))
   .exact⟨t.par,f4++[a],⟨A,by simp[hpl]⟩,rfl⟩
   .exact UR Z (.inr zB)
 .rintro st ⟨a,f4,⟨hp,hpl⟩,rfl⟩;rw[show ZY l (8-8) a=[]from rfl,zB0]at hp;refine WW ?_;exact ZQ rfl (.inl (by rw[zA6,hp,hpl]))
def Wj (l:List Tk) (s u:Int):Bool:=(ZY l 8 s).any λa=>a==u
def Pn (l:List Tk) (s u:Int):zO 377 [zE yN l,iA s,iA u] [] (bA (Wj l s u)) []:=by
 have c:=Vy l s;unfold Rn at c;refine eM call377 λF hF=>?_
 refine zS c ?_;refine qR hF (Qn l s) Z [5,6] [5,6] Z Z Z Z Z Z Z Z Z (λi ys h=>?_) (λ_=>[(5,.box [iA u]),(6,.box [.s (.bool false)])]) (λi=>∀x∈(ZY l 8 s).take i,x≠u) (T:=[(5,.ptr 5 0 0),(6,.ptr 6 0 0)]) Z zV (λi ys y B E L h1 h2=>?_) (λE=>?_)
 .rw[zBe,zBp]at h;obtain⟨x,_,rfl⟩:=h;rfl
 .rw[zBe,zBp]at B;obtain⟨x,G,rfl⟩:=B
  show uG _ L _ _ ⟨[(11,iA x),(5,.ptr 5 0 0),(6,.ptr 6 0 0)],[(5,.box [iA u]),(6,.box [.s (.bool false)])]⟩ _
  have A:x∈ZY l 8 s:=zCq G;refine WW ?_;refine⟨rfl,λM O R=>?_⟩;by_cases I:x=u
  .have hd:Wj l s u=true:=zCx.2 ⟨x,A,by simpa using I⟩;rw[hd];exact ly
  ·(refine WW ?_)
   refine⟨rfl,λz C=>?_⟩;rw[zD7,G]at C;simp only[Option.toList_some,zBs,zB1]at C
   rcases C with C|rfl
   .exact E z C
   .exact I
 .rw[zA6,zA8]at E;have hd:Wj l s u=false:=zDp.2 λx G=>by simpa using E x G
  rw[hd];exact ly
def FS (l:List Tk) (f3:Int) (j:Nat):Tk:=if(ZY l 8 j).any (λa=>Vb (l.getD a.toNat dd) f3)=true then Ub else l.getD j dd
def PE (l:List Tk) (f3:Int) (s:Nat):List Tk:=(pi (ln l)).map λj=>if j<s then FS l f3 j else l.getD j dd
def ZD (l:List Tk) (f3:Int):List Tk:=(pi (ln l)).map (FS l f3)
def FT (l:List Tk) (f3:Int) (s:Nat):(PE l f3 s).length=ln l:=by simp[PE]
theorem On (l:List Tk) (f3:Int):PE l f3 0=l:=by apply zCf<;>grind [PE,List.getElem?_range,py,List.getElem?_eq_none]
theorem Qu (l:List Tk) (f3:Int):PE l f3 (ln l)=ZD l f3:=by grind [PE,ZD,List.map_congr_left]
theorem Nn (l:List Tk) (f3:Int) (s:Nat) (h:s<ln l):(PE l f3 s)[s]? =some (l.getD s dd):=by grind [PE]
theorem Mn (l:List Tk) (f3:Int) (s:Nat):PE l f3 (s+1)=(PE l f3 s).set s (FS l f3 s):=by apply zCf<;>grind [PE,FS,List.getElem?_range,List.getElem?_eq_none]
theorem Ln (l:List Tk) (hb:IP l) (f3:Int):zO 220 [zE yN l,iA f3] [] (zE yN (ZD l f3)) []:=by
 have c:=VM l hb;have hn:=hb.n;have M:=zA yN l;refine eM call220 λF hF=>?_
 refine zS c ?_;refine zN ((l.map yN).length) [1001,2,3,5] [2,3,5] [2,3,5,11,18] [12,2,3,5,11,18] Z (λi T U=>⟨(12,iA i)::T,(1001,.arr 6 ((PE l f3 i).map yN) false)::U⟩) ?_;(conv=>whnf);refine⟨by(rw[On];rfl),?_,?_⟩
 .intro i hi;have hi':i<ln l:=by omega
  have O:=Vy l i;unfold Rn at O;have hy:((PE l f3 i).map yN)[i]? =some (yN (l.getD i dd)):=by rw[zBe,Nn l f3 i hi'];rfl
  have R:=Mn l f3 i;have L:=Yd;have ag:i<((PE l f3 i).map yN).length:=by rw[zA6,FT];exact hi'
  refine zS O ?_
  refine qR hF (Qn l i) Z [2,3,5,6,1001] [2,3,5,6,11,12] Z Z Z Z Z Z Z Z Z (λk ys h=>?_) (λ_=>[(2,.box [zE yN l]),(3,.box [iA f3]),(5,.box [.ref 1001 0 (l.map yN).length]),(6,.box [iA i]),(1001,.arr 6 ((PE l f3 i).map yN) false)]) (λk=>∀x∈(ZY l 8 i).take k,Vb (l.getD x.toNat dd) f3=false)
   (T:=[(2,.ptr 2 0 0),(3,.ptr 3 0 0),(5,.ptr 5 0 0),(6,.ptr 6 0 0),(11,iA (l.map yN).length),(12,iA i)]) Z zV (λk ys y A C V h1 h2=>?_) (λC=>?_)
  .rw[zBe,zBp]at h;obtain⟨x,_,rfl⟩:=h;rfl
  .rw[zBe,zBp]at A;obtain⟨x,S,rfl⟩:=A
   show uG _ V _ _ ⟨[(18,iA x),(2,.ptr 2 0 0),(3,.ptr 3 0 0),(5,.ptr 5 0 0),(6,.ptr 6 0 0),(11,iA (l.map yN).length),(12,iA i)],[(2,.box [zE yN l]),(3,.box [iA f3]),(5,.box [.ref 1001 0 (l.map yN).length]),(6,.box [iA i]),(1001,.arr 6 ((PE l f3 i).map yN) false)]⟩ _
   have u:x∈ZY l 8 i:=zCq S;obtain⟨W,Y⟩:=ZZ (ud _ _ _ u);have ap:=yF yN l x W Y;have E:=IO (l.getD x.toNat dd) f3;refine WW ?_;refine⟨rfl,λF2 g1 g2=>?_⟩
   cases I:Vb (l.getD x.toNat dd) f3<;>rw[I]at E
   ·(refine zS E ?_)
    refine⟨rfl,λz B=>?_⟩;rw[zD7,S]at B;simp only[Option.toList_some,zBs,zB1]at B
    rcases B with B|rfl
    .exact C z B
    .exact I
   .have G:(PE l f3 (i+1)).map yN=((PE l f3 i).map yN).set i (yN Ub):=by
     rw[R,FS,zA5 (zCx.2 ⟨x,u,I⟩),zCs]
    generalize (PE l f3 i).map yN=xs,(PE l f3 (i+1)).map yN=ys at *;subst G;refine yJ (xW E L) ?_;rfl
  .rw[zA6,zA8]at C
   have G:(PE l f3 (i+1)).map yN=(PE l f3 i).map yN:=by
    rw[R,FS,Os (by simpa using C)]
    congr 1
    have:=Nn l f3 i hi';rw[zBw]at this;obtain⟨h,e⟩:=this;rw[<-e,zGt]
   generalize (PE l f3 i).map yN=xs,(PE l f3 (i+1)).map yN=ys at *;subst G;refine WW ?_;rfl
 .have ac:(l.map yN).length=((PE l f3 (ln l)).map yN).length:=by simp[FT]
  rw[<-Qu];rw[M]at *; refine WW ?_;exact zI [] Z Z (zBq (AV.sl false) (zBf (by simp[FT]))) Z
def Xb (a:Ag):List Tk:=⟨true,a.sec,-1,a.rights,a.cls,0⟩::pb 7 Ub
def zT:AV:= .agg [.s (.bool false),.s (.slice none 0 0),.s (.int .i64 0),.s (.int .i64 0),.s (.int .i64 0),.s (.int .i64 0)]
def Wb (i:Nat):List AV:=pb i (yN Ub)++pb (8-i) zT
theorem V3 (i:Nat) (h:i<8):(Wb i)[i]? =some zT:=by grind [Wb,zT]
def Pu (i:Nat) (h:i<8):(Wb i).set i (yN Ub)=Wb (i+1):=by
 unfold Wb;rw[show 8-i=(8-(i+1))+1 by omega,zF3 (n:=8-(i+1)),zE5 _ _ zV,zC4,zEj,zGe,zFe (n:=i),zBy];rfl
def U3 (a:Ag) (C:ln a.sec<=1000000):zO 206 [vP a] [] (zE yN (Xb a)) []:=by
 have A:=Yd;have cs:=kU a.sec zB;obtain⟨N,hN⟩:∃N:Nat,N=8:=⟨8,rfl⟩;refine eM call206 λF hF=>?_
 refine WW ?_;refine zN (N) [5,1] [1] [1] [8,7,3,1] Z (λi T U=>⟨(8,iA i)::(7,iA N)::(3,.ref 5 0 N)::T,(5,.arr 6 (Wb i) false)::U⟩) ?_;(conv=>whnf);refine⟨by(rw[hN];rfl),?_,?_⟩
 .intro i hi;have z:=V3 i zB;have e:=Pu i zB;have u:(Wb i).length=8:=by unfold Wb;simp;omega
  generalize Wb i=xs,Wb (i+1)=ys at *;subst e;unfold zT at z;refine zS A ?_;rfl
 .rw[show Wb N=Wb 8 by rw[hN]];have z:(Wb 8)[0]? =some (yN Ub):=rfl;have B:(Wb 8).set 0 (yN ⟨true,a.sec,-1,a.rights,a.cls,0⟩)=(Xb a).map yN:=rfl;have u:(Wb 8).length=8:=rfl;generalize Wb 8=xs at *;unfold yN at z;refine zS cs ?_;exact zI [] Z Z (zBq (AV.sl false) ((zBf qD).trans B)) Z
def PF (n:Int) (a:Ag):Rg:=⟨n,a,Xb a,[],⟨a.burst,a.rate,a.burst⟩⟩
def S3 (n:Int) (a:Ag) (u:ln a.sec<=1000000) (hl:ln a.lim<=1000000):zO 151 [iA n,vP a] [] (uR (PF n a)) []:=by
 have z:=AS a u hl;have A:=U3 a u;have B:=F3 a.rate a.burst;unfold PF;generalize Xb a=C at *;refine eM call151 λF hF=>?_
 exact mx (qM z A B)
def YA (g s:Int) (l:List Int) (hl:ln l<=1000000) (z:0<=g) (A:g<256) (B:0<=s) (C:s<256):zO 66 [iA g,iA s,zE yA l] [] (zE yA (g::s::l)) []:=by
 have u:=zA yA l;refine eM call66 λF hF=>?_
 refine WW ?_;exact zI [] Z Z (zBq (AV.sl false) (zBf zV)) Z
def R3 (a b:List Int):zO 341 [zE yA a,zE yA b] [] (bA (Qh a b)) []:=by
 refine eM call341 λF hF=>?_
 exact ly
def vi (l:List Tk) (b:List Int):Tk:=l.getD (b.getD 1 dd).toNat dd
def IK (l:List Tk) (g:Int) (b:List Int) (k f3:Int):Bool:=decide ((ln b:Int)=10/\b.getD 0 dd=g)&&jZ l (b.getD 1 dd)&&(Qh (b.drop 2) (vi l b).sec&& !Vb (vi l b) f3&&ji (vi l b).rights k)
def Ou (l:List Tk) (g:Int) (b:List Int) (k f3:Int) (hb:BY b):zO 305 [zE yN l,iA g,zE yA b,iA k,iA f3] [] (.tup [iA (if IK l g b k f3=true then b.getD 1 dd else 0),iA (if IK l g b k f3=true then 0 else 9)]) []:=by
 have L:=zA yA b;have M:=zA yN l;by_cases h1:(ln b:Int)=10
 case neg=>
  have e:IK l g b k f3=false:=by unfold IK;rw[zA7 (λh=>h1 h.1)];rfl
  rw[e];refine eM call305 λF hF=>?_
  exact ly
 have B:=yF yA b 0 zB zB;have C:=yF yA b 1 zB zB;have Y:0<=b.getD 0 dd/\b.getD 0 dd<256:=hb _ Mf;have b1:0<=b.getD 1 dd/\b.getD 1 dd<256:=hb _ Mf
 change (b.map yA)[0]? =some (yA (b.getD 0 dd))at B
 change (b.map yA)[1]? =some (yA (b.getD 1 dd))at C
 unfold IK vi;generalize b.getD 0 dd=W,b.getD 1 dd=z at *;by_cases h2:W=g
 case neg=>
  rw[zA7 (λh=>h2 h.2)];refine eM call305 λF hF=>?_
  exact ly
 rw[zA9 ⟨h1,h2⟩];have u:=Zd l z;cases A:jZ l z
 .rw[A]at u;refine eM call305 λF hF=>?_
  exact ng u
 rw[A]at u;obtain⟨U,V⟩:=ZZ A;have O:=yF yN l z U V;generalize l.getD z.toNat dd=t at *;have E:=R3 (b.drop 2) t.sec;have I:=IO t f3;have G:=gi t.rights k;generalize Qh (b.drop 2) t.sec=q1,Vb t f3=R,ji t.rights k=S at *
 cases q1<;>cases R<;>cases S<;>((refine eM call305 λF hF=>?_);exact mx (cM u E I G))
def rgZ:Rg:=⟨0,⟨[],0,0,[],0,0,0,0⟩,[],[],⟨0,0,0⟩⟩
def TJ (k:Int):Bool:=decide (2<=k/\k<=8)
def Kf (r:Rg) (m:Ms) (f3:Int):Int:=if IK r.tk r.num m.tok m.kind f3=true then(if TJ m.kind=true/\r.bk.level<=0 then 13 else 0)else 9
def Kn (r:Rg) (m:Ms) (f3:Int):Rg:=if Kf r m f3=0 then(if TJ m.kind=true then⟨r.num,r.ag,r.tk,r.vh,RP r.bk⟩else r)else rgZ
def Uy (r:Rg) (m:Ms) (f3:Int):Int:=if Kf r m f3=0 then m.tok.getD 1 dd else 0
def Q3 (r:Rg) (m:Ms) (f3:Int) (G:IQ r) (E:BY m.tok) (hl:r.bk.level<=1000000):zO 268 [uR r,zX m,iA f3] [] (.tup [uR (Kn r m f3),iA (Uy r m f3),iA (Kf r m f3)]) []:=by
 have u:=Ou r.tk r.num m.tok m.kind f3 E;have A:=cI r G;have z:=yv r.bk zB;unfold Kn Uy Kf
 cases B:IK r.tk r.num m.tok m.kind f3<;>rw[B]at u
 ·(refine eM call268 λF hF=>?_)
  exact ng u
 .generalize m.tok.getD 1 dd=C at *;cases hk:TJ m.kind
  .have hk':¬(2<=m.kind/\m.kind<=8):=zFl hk;refine eM call268 λF hF=>?_
   refine yJ (xW u A) (I2 (λhc=>?_) λhc=>?_)
   all_goals (first|exact NW|exact zH)
  .have hk':2<=m.kind/\m.kind<=8:=zEy hk;by_cases hv:r.bk.level<=0
   .rw[zA7 zB]at z;simp only[hv,and_self,zE8];refine eM call268 λF hF=>?_
    exact mx (qM u A z)
   .rw[zA9 zB]at z;simp only[hv,zFs,zF5,zE8];generalize hb:RP r.bk=I at *;refine eM call268 λF hF=>?_
    exact mx (qM u A z)
def P3 (r:Rg) (f3:Int):Rg:=⟨r.num,r.ag,ZD r.tk f3,r.vh,C7 r.bk⟩
def Nu (r:Rg) (f3:Int) (u:IQ r) (hl: -1000000<=r.bk.level+r.bk.rate/\r.bk.level+r.bk.rate<=1000000):zO 174 [uR r,iA f3] [] (uR (P3 r f3)) []:=by
 have z:=cI r u;have A:=Ln r.tk u.tk f3;have B:=zv r.bk zB;unfold P3;generalize ZD r.tk f3=E,C7 r.bk=C at *;refine eM call174 λF hF=>?_
 exact mx (qM z A B)
def Mu (l:List Tk) (hb:ln l<=1000000):zO 145 [zE yN l,zE yN l] [] (bA true) []:=by
 have hl:=zA yN l;refine eM call145 λF hF=>?_
 refine WW ?_;refine zU (l) [] [] [1,13,14] [15,1,13,14] Z (λi f4 T U=>⟨(15,iA i)::T,U⟩) (Lq ?_ ?_)
 .intro i f4 x post u hi;have A:=yG yN u hi;have z:=zW u hi;clear u;refine WW (I3 (λhc=>?_) (λhc hc=>?_) (λhc hc=>?_))
  all_goals (first|rfl|(exfalso;first|(simp[wR]at hc;done)|(revert hc;simp[wR];done)))
 .exact ly
def Lu (l:List Vh) (hb:ln l<=1000000):zO 146 [zE wX l,zE wX l] [] (bA true) []:=by
 have hl:=zA wX l;refine eM call146 λF hF=>?_
 refine WW ?_;refine zU (l) [] [] [1,12,13] [14,1,12,13] Z (λi f4 T U=>⟨(14,iA i)::T,U⟩) (Lq ?_ ?_)
 .intro i f4 x post u hi;have A:=yG wX u hi;have z:=zW u hi;clear u
  (repeat' (first|refine uT ?_|apply yW|apply xH|intro hc|(apply zG;first|refine SE ?_)|fail))
  all_goals (first|rfl|(exfalso;first|(simp[wR]at hc;done)|(revert hc;simp[wR];done)))
 .exact ly
def Ku (a:Ag) (hb:ln a.lim<=1000000):zO 144 [vP a,vP a] [] (bA true) []:=by
 have hl:=zA iA a.lim;refine eM call144 λF hF=>?_
 refine WW ?_;refine zU (a.lim) [2,3] [2,3] [2,3,15,16] [17,2,3,15,16] Z (λi f4 T U=>⟨(17,iA i)::T,U⟩) (Lq ?_ ?_)
 .intro i f4 x post u hi;have A:=yG iA u hi;have z:=zW u hi;clear u;refine WW ?_
  all_goals (first|rfl|(exfalso;first|(simp[wR]at hc;done)|(revert hc;simp[wR];done)))
 ·(refine WW (I2 (λhc=>?_) λhc=>?_))
  all_goals (first|(exfalso;first|(simp[wR]at hc;done)|(revert hc;simp[wR];done))|exact zH|(apply vI;(exact zH);simp[uS,wR]))
def Ju (r:Rg) (u:IQ r):zO 71 [uR r,uR r] [] (bA true) []:=by
 have z:=Ku r.ag u.l;have A:=Mu r.tk u.tk.n;have B:=Lu r.vh u.v;refine eM call71 λF hF=>?_
 (have ga:=z;have ge:=A;have gn:=B;(repeat' (first|refine uT ?_|apply yW|apply xH|intro hc|(apply zG;first|refine SE ?_)|fail))<;>clear ga ge gn)
 all_goals (first|exact zH|(apply vI;(exact zH);simp))
def MU (l:List Tk) (hb:IP l):zO 236 [zE yN l] [] (.ref 1001 0 (l.map yN).length) [(1001,.arr 6 (l.map yN) false)]:=by
 have E:=hb.n;have z:=zA yN l;refine eM call236 λF hF=>?_
 (repeat' (first|refine uT ?_|apply yW|apply xH|intro hc|fail))
 refine zQ 3 1001 6 Z Z Z ?_;refine zU (l) [1001] [] [6,7] [3,8,6,7] Z (λi f4 T U=>⟨(3,.ref 1001 0 (f4.map yN).length)::(8,iA i)::T,(1001,.arr 6 (f4.map yN) true)::U⟩) (Lq ?_ ?_)
 .intro i f4 x post u hi;have I:=yG yN u hi;have A:=zW u hi;have B:(f4.map yN).length=i:=by rw[zA6,hi]
  have G:=hb.s x (yY u);have C:=zA yA x.sec;have e:(f4++[x]).map yN=f4.map yN++[yN x]:=by simp
  clear u;rw[e];generalize f4.map yN=xs,l.map yN=L at *;refine WL ?_;rfl
 ·(repeat' (first|refine yf ?_|apply yW|apply xH|intro hc|fail))
  refine kY [1001] [2] Z Z ?_;refine kF 1001 [2] Z Z Z Z Z (xL ?_);exact zP [1001] Z Z Z Z
def Hn (l:List Tk) (hb:IP l):zO 236 [zE yN l] [] (zE yN l) []:=by
 have E:=hb.n;have z:=zA yN l;refine eM call236 λF hF=>?_
 (repeat' (first|refine uT ?_|apply yW|apply xH|intro hc|fail))
 refine zQ 3 1001 6 Z Z Z ?_;refine zU (l) [1001] [] [6,7] [3,8,6,7] Z (λi f4 T U=>⟨(3,.ref 1001 0 (f4.map yN).length)::(8,iA i)::T,(1001,.arr 6 (f4.map yN) true)::U⟩) (Lq ?_ ?_)
 .intro i f4 x post u hi;have I:=yG yN u hi;have A:=zW u hi;have B:(f4.map yN).length=i:=by rw[zA6,hi]
  have G:=hb.s x (yY u);have C:=zA yA x.sec;have e:(f4++[x]).map yN=f4.map yN++[yN x]:=by simp
  clear u;rw[e];generalize f4.map yN=xs,l.map yN=L at *;refine WL ?_;rfl
 ·(refine WL ?_)
  exact zI [] Z Z (eJ _ _) Z
def eI (r:Rg) (hb:IQ r):zO 186 [uR r] [] (uR r) []:=by
 have c:=Hn r.tk hb.tk;have h1:=hb.s;have h2:=hb.l;have u:=hb.v;have z:=zA yA r.ag.sec;have A:=zA iA r.ag.lim;have B:=zA wX r.vh;refine eM call186 λF hF=>?_
 exact oj c
def ui (a:Ag) (i:Nat):List AV:=yN ⟨true,a.sec,-1,a.rights,a.cls,0⟩::pb i (yN Ub)
def Iu (a:Ag) (A:ln a.sec<=1000000):zO 212 [vP a] [] (zE yN (Xb a)) []:=by
 have u:=zA yA a.sec;obtain⟨N,hN⟩:∃N:Nat,N=7:=⟨7,rfl⟩;refine eM call212 λF hF=>?_
 (repeat' (first|refine jX ?_|apply yW|apply xH|intro hc|(apply zG;first|(apply yI;refine qA (nw:=[1001]) (yV tok 1001 (xs:=[.agg [.s (.bool true),.sl false (a.sec.map yA),.s (.int .i64 (-1)),.s (.int .i64 a.rights),.s (.int .i64 a.cls),.s (.int .i64 0)]]) Z Z Z Z Z Z Z Z Z) Z Z Z ?_)|refine SL ?_)|refine SB ?_|fail))
 refine vQ 1001 Z ?_;refine zN (N) [1001] [] [] [3] Z (λi T U=>⟨(3,.ref 1001 0 (ui a i).length)::T,(1001,.arr 6 (ui a i) true)::U⟩) (Lq ?_ ?_)
 .intro i hi;have hl:(ui a i).length=i+1:=by simp[ui]
  have e:ui a (i+1)=ui a i++[yN Ub]:=by unfold ui;rw[zFe];rfl
  have hh:∀y,(ui a i)[0]? =some y->ln y.cells=6:=λy z=>by cases z;rfl
  rw[e];generalize ui a i=xs at*
  (repeat' (first|refine jX ?_|apply yW|apply xH|intro hc|(apply zG;first|(apply yI;refine ZR 17 Z Z Z ?_;refine vD tok Z Z ?_))|refine SB ?_|fail))
  rfl
 .have hl:(ui a N).length=N+1:=by simp[ui]
  rw[show Xb a=Xb a from Z];have e:(ui a N).take (ui a N).length=(Xb a).map yN:=by rw[zA8,hN];rfl
  refine WL ?_;exact zI [] Z Z (zBq (AV.sl false) e) Z
def Hu (n:Int) (a:Ag) (z:ln a.sec<=1000000) (hl:ln a.lim<=1000000):zO 157 [iA n,vP a] [] (uR (PF n a)) []:=by
 have A:=Iu a z;have B:=Au a.rate a.burst
 have hb:IQ (PF n a):=⟨⟨by simp[PF,Xb],λt u=>by
  simp only[PF,Xb,zCt]at u
  rcases u with rfl|u
  .exact z
  .rw[zFi u];simp[Ub]⟩,z,hl,by simp[PF]⟩
 have C:=eI (PF n a) hb;unfold PF at *;generalize Xb a=E at *;refine eM call157 λF hF=>?_
 exact mx (qM A B C)
def AN (t:Tk):Bool:=decide ((ln t.sec:Int)=8/\0<=t.cls/\t.cls<=3/\0<=t.til/\t.til<=2147483648)
def Gr (t:Tk):Bool:=OH t.rights&&AN t
def FU (t:Tk):zO 389 [yN t] [] (bA (Gr t)) []:=by
 have c:=XD t.rights;have hl:=zA yA t.sec;unfold Gr;generalize OH t.rights=v at *;cases v
 .rw[zB8];refine eM call389 λF hF=>?_
  refine zS c (I2 (λhc=>?_) λhc=>?_)
  all_goals exact zH
 .rw[zBh]
  (cases hb:AN t with|false=>((refine eM call389 λF hF=>?_);((refine zS c (I5 (λhc hc hc hc=>?_) (λhc hc hc hc=>?_) (λhc hc hc=>?_) (λhc hc=>?_) λhc=>?_)));all_goals (first|exact zH|(simp only[AN,zBi]at hb;first|exact NW|exact PY)))|true=>(simp only[AN,zBc]at hb;(refine eM call389 λF hF=>?_);((refine zS c ?_));all_goals (first|exact zH|exact NW|exact PY)))
def KJ (t:Tk):Bool:=decide ((ln t.sec:Int)=0/\t.par= -1/\t.rights=0/\t.cls=0/\t.til=0)
def dP (u:Bool) (t:Tk):AV:= .agg [bA u,zE yA t.sec,iA t.par,iA t.rights,iA t.cls,iA t.til]
def Gn (t:Tk):zO 390 [dP false t] [] (bA (KJ t)) []:=by
 have hl:=zA yA t.sec
 (cases hb:KJ t with|false=>((refine eM call390 λF hF=>?_);((refine WW (I5 (λhc hc hc hc=>?_) (λhc hc hc hc=>?_) (λhc hc hc=>?_) (λhc hc=>?_) λhc=>?_)));all_goals (first|exact zH|(simp only[KJ,zBi]at hb;first|exact NW|exact PY)))|true=>(simp only[KJ,zBc]at hb;(refine eM call390 λF hF=>?_);((refine WW ?_));all_goals (first|exact zH|exact NW|exact PY)))
def MV (l:List Tk) (s:Int):Bool:=if(l.getD s.toNat dd).used=true then Gr (l.getD s.toNat dd)&&Wj l s 0&&(od (l.getD s.toNat dd).rights (l.getD (l.getD s.toNat dd).par.toNat dd).rights&&decide ((l.getD s.toNat dd).cls<=(l.getD (l.getD s.toNat dd).par.toNat dd).cls)&& !Er (l.getD s.toNat dd).til (l.getD (l.getD s.toNat dd).par.toNat dd).til)
 else KJ (l.getD s.toNat dd)
def IL (t:Tk):Bool:=t.used&&decide (t.par= -1/\t.til=0)&&Gr t
def PG (l:List Tk):Bool:=decide ((ln l:Int)=8)&&(IL (l.getD 0 dd)&&(pi 7).all λi=>MV l ((i:Int)+1))
theorem O3 {i:Nat} (hi:i<7) (h:MV l ((i:Int)+1)=false):PG l=false:=by grind [MV,PG]
theorem Gu (h:Wj l s 0=true) (u:s≠0):jZ l (l.getD s.toNat dd).par=true:=by
 unfold Wj at h;rw[eW l 7 s]at h
 cases z:jZ l s<;>rw[z]at h
 .simp at h
 .rw[zCm,zGw]at h;have:(s==0)=false:=by simpa using u
  rw[this,zDk,eW l 6]at h
  grind
theorem TK (l:List Tk):zO 372 [zE yN l] [] (bA (PG l)) []:=by
 have ag:=zA yN l;by_cases h8:(ln l:Int)=8
 case neg=>
  rw[show PG l=false by unfold PG;rw[zA7 h8];rfl];refine eM call372 λF hF=>?_
  exact ly
 have I:=yF yN l 0 zB zB
 change (l.map yN)[0]? =some (yN (l.getD 0 dd))at I
 cases L:IL (l.getD 0 dd)
 .rw [show PG l=false by unfold PG;rw[L];simp];have c:=FU (l.getD 0 dd);unfold IL at L;generalize l.getD 0 dd=t at *;generalize Gr t=q at *;cases B:t.used
  .rw[show yN t=dP false t by unfold yN dP;rw[B]]at *; unfold dP at *;refine eM call372 λF hF=>?_
   exact ng c
  .rw[show yN t=dP true t by unfold yN dP;rw[B]]at *; unfold dP at *;by_cases h1:t.par= -1
   .by_cases h2:t.til=0
    .rw[B,zA9 ⟨h1,h2⟩,zBh,zBh]at L;subst L;refine eM call372 λF hF=>?_
     exact ng c
    ·(refine eM call372 λF hF=>?_)
     exact ng c
   ·(refine eM call372 λF hF=>?_)
    exact ng c
 have M:=FU (l.getD 0 dd);have G:=L;unfold IL at G;simp only[zBg,zBc]at G;obtain⟨⟨B,h1,h2⟩,h3⟩:=G;have A:=I;rw[h3]at M;rw[show yN (l.getD 0 dd)=dP true (l.getD 0 dd) by unfold yN dP;rw[B]]at A M;unfold dP at A M;clear I;generalize ar:l.getD 0 dd=t0 at A M h1 h2;refine eM call372 λF hF=>?_
 refine zS M ?_;refine yU (7) [] [] [0] [4,0] Z (λi T U zs=>(∀s:Nat,s<i->MV l ((s:Int)+1)=true)/\zs=⟨(4,iA ((i:Int)+1))::T,U⟩) (Lp ?_ ?_ ?_)
 .exact⟨λs hs=>absurd hs (zC3 _),rfl⟩
 .rintro i st hi ⟨hp,rfl⟩
  have E:MV l ((i:Int)+1)=true->∀s:Nat,s<i+1->MV l ((s:Int)+1)=true:=λh s hs=>by
   by_cases ac:s=i
   .subst ac;exact h
   .exact hp s zB
  have z:=λh=>O3 (l:=l) hi h
  have Y:=yF yN l ((i:Int)+1) zB zB;have C:=FU (l.getD ((i:Int)+1).toNat dd);have V:=Gn (l.getD ((i:Int)+1).toNat dd);have O:=Pn l ((i:Int)+1) 0;have S:=Gu (l:=l) (s:=(i:Int)+1);have u:MV l ((i:Int)+1)=_:=rfl
  conv at u=>rhs;unfold MV
  generalize l.getD ((i:Int)+1).toNat dd=t,MV l ((i:Int)+1)=tk at *;cases B:t.used
  .rw[show yN t=dP false t by unfold yN dP;rw[B]]at Y;rw[B,Os zV]at u;rw[<-u]at V;unfold dP at Y V;cases tk
   .rw[z Z];exact ng V
   ·(refine zS V ?_)
    exact⟨E Z,by rw[zGl];rfl⟩
  .rw[show yN t=dP true t by unfold yN dP;rw[B]]at Y C;rw[B,zA5 Z]at u;unfold dP at Y C;generalize Gr t=q1 at *;generalize ap:Wj l ((i:Int)+1) 0=q2 at *;cases q1
   .rw[zB8,zB8]at u;rw[z u];exact ng C
   cases q2
   .rw[zBh,zB8]at u;rw[z u];exact mx (xW C O)
   rw[zBh,zBh]at u;obtain⟨p0,p1⟩:=ZZ (S Z zB);have au:=yF yN l t.par p0 p1;generalize l.getD t.par.toNat dd=p at *;have W:=AP t.rights p.rights;have c5:=Df t.til p.til;generalize od t.rights p.rights=q3,Er t.til p.til=q4 at *;cases q3
   .rw[zB8,zB8]at u;rw[z u];exact mx (qM C O W)
   by_cases R:t.cls<=p.cls
   .rw[zA9 R,zBh,zBh]at u;cases q4
    ·(refine yJ (cM C O W c5) ?_)
     exact⟨E u,by rw[zGl];rfl⟩
    .rw[z u];exact mx (cM C O W c5)
   .rw[zA7 R,zBh,zB8]at u;rw[z u];exact mx (cM C O W c5)
 .rintro st ⟨hp,rfl⟩
  rw[show PG l=true by
   unfold PG;rw[zA9 h8,L,zBh,zBh]
   exact zBk.2 λi hi=>hp i (zBu.1 hi)]
  exact ly
def YB (l:List Tk):Nat->Int->Int->Bool
 |0,_,_=>false
 |n+1,f,t=>jZ l f&&(f==t||YB l n (l.getD f.toNat dd).par t)
def MW (l:List Tk) (n:Nat) (f t:Int):YB l (n+1) f t=(jZ l f&&(f==t||YB l n (l.getD f.toNat dd).par t)):=rfl
theorem Cn (l:List Tk) (t:Int):∀(n:Nat) (f:Int),YB l n f t=(ZY l n f).any λa=>a==t
 |0,_=>rfl
 |n+1,f=>by
  rw[MW,eW];cases jZ l f
  .rfl
  .rw[zCm,zGw,Cn l t n,zBh]
def Jf (l:List Tk) (f t:Int) (G:ln l<=1000000):zO 286 [zE yN l,iA f,iA t] [] (bA (YB l (ln l+1) f t)) []:=by
 have hl:=zA yN l;generalize C:YB l (ln l+1) f t=R;refine eM call286 λF hF=>?_
 refine WW ?_;refine yU (ln l+1) [] [] [0,2] [1,7,0,2] Z (λi T U E=>∃(a:Int),(R=YB l (ln l+1-i) a t)/\E=⟨(1,iA a)::(7,iA i)::T,U⟩) (Lp ?_ ?_ ?_)
 .exact⟨f,C.symm,rfl⟩
 .rintro i st hi ⟨a,hp,rfl⟩;obtain⟨k,hk⟩:∃k,ln l+1-i=k+1:=⟨ln l-i,zB⟩;rw[hk,MW l k a t]at hp;have hk':ln l+1-(i+1)=k:=by omega
  unfold jZ at hp;by_cases A:0<=a
  .by_cases h1:a<ln l
   .have z:=yF yN l a A h1;rw[zA9 ⟨A,h1⟩,zBh]at hp;generalize l.getD a.toNat dd=x at *;cases u:x.used
    .rw[u,zB8]at hp;rw[show yN x=dP false x by unfold yN dP;rw[u]]at z;unfold dP at z;rw[hp];exact ly
    .rw[u,zBh]at hp;rw[show yN x=dP true x by unfold yN dP;rw[u]]at z;unfold dP at z;by_cases B:a=t
     .rw[show(a==t)=true by simpa using B,zDt]at hp;rw[hp];exact ly
     .rw[show(a==t)=false by simpa using B,zDk]at hp;refine WW ?_;exact⟨x.par,by rw[hk'];exact hp,by rw[zGl];rfl⟩
   .rw[zA7 zB]at hp;simp only[zB8]at hp;rw[hp];exact ly
  .rw[zA7 zB]at hp;simp only[zB8]at hp;rw[hp];exact ly
 .rintro st ⟨a,hp,rfl⟩;rw[zEj]at hp;rw[hp];exact ly
def dJ (l:List Tk) (s:Nat):Bool:=if(l.getD s dd).used=true then Gr (l.getD s dd)&&YB l (ln l+1) s 0&&(decide (s=0)||(od (l.getD s dd).rights (l.getD (l.getD s dd).par.toNat dd).rights&&decide ((l.getD s dd).cls<=(l.getD (l.getD s dd).par.toNat dd).cls)&& !Er (l.getD s dd).til (l.getD (l.getD s dd).par.toNat dd).til))
 else KJ (l.getD s dd)
def YC (t:Tk):Bool:=t.used&&decide (t.par= -1/\t.til=0)
def aT (l:List Tk):Bool:=decide ((ln l:Int)=8)&&(YC (l.getD 0 dd)&&(pi (ln l)).all λi=>dJ l i)
theorem Fu {i:Nat} (hi:i<ln l) (h:dJ l i=false):aT l=false:=by grind [dJ,aT]
theorem Eu (h:YB l (n+1) s 0=true) (u:s≠0):jZ l (l.getD s.toNat dd).par=true:=by
 rw[MW l n s 0]at h;have:(s==0)=false:=by simpa using u
 rw[this,zDk,zBg]at h
 cases n with
 |zero=>exact absurd h.2 (by simp[YB])
 |succ n=>
  grind [YB,jZ]
theorem RM (l:List Tk):zO 363 [zE yN l] [] (bA (aT l)) []:=by
 have ap:=zA yN l;by_cases h8:(ln l:Int)=8
 case neg=>
  rw[show aT l=false by unfold aT;rw[zA7 h8];rfl];refine eM call363 λF hF=>?_
  exact ly
 have R:=yF yN l 0 zB zB
 change (l.map yN)[0]? =some (yN (l.getD 0 dd))at R
 cases M:YC (l.getD 0 dd)
 .rw [show aT l=false by unfold aT;rw[M];simp];unfold YC at M;generalize l.getD 0 dd=t at *;cases G:t.used
  .rw[show yN t=dP false t by unfold yN dP;rw[G]]at *; unfold dP at *;refine eM call363 λF hF=>?_
   exact ly
  .rw[show yN t=dP true t by unfold yN dP;rw[G]]at *; unfold dP at *;rw[G,zBh]at M;by_cases h1:t.par= -1
   .by_cases h2:t.til=0
    .rw[zA9 ⟨h1,h2⟩]at M;cases M
    ·(refine eM call363 λF hF=>?_)
     exact ly
   ·(refine eM call363 λF hF=>?_)
    exact ly
 have O:=M;unfold YC at O;simp only[zBg,zBc]at O;obtain⟨G,h1,h2⟩:=O;have A:=R;rw[show yN (l.getD 0 dd)=dP true (l.getD 0 dd) by unfold yN dP;rw[G]]at A;unfold dP at A;clear R;generalize av:l.getD 0 dd=t0 at A h1 h2;refine eM call363 λF hF=>?_
 refine WW ?_;clear A;refine yU (ln l) [] [] [0,30,31] [32,0,30,31] Z (λi T U zs=>(∀s:Nat,s<i->dJ l s=true)/\zs=⟨(32,iA i)::T,U⟩) (Lp ?_ ?_ ?_)
 .exact⟨λs hs=>absurd hs (zC3 _),rfl⟩
 .rintro i st hi ⟨hp,rfl⟩
  have E:dJ l i=true->∀s:Nat,s<i+1->dJ l s=true:=λh s hs=>by
   by_cases ag:s=i
   .subst ag;exact h
   .exact hp s zB
  have z:=λh=>Fu (l:=l) hi h
  have Y:=zJ yN l i hi;have I:=XE (l.getD i dd).rights;have L:=Jf l i 0 zB;have B:=Eu (l:=l) (n:=ln l) (s:=i);rw[zBx]at B;have u:dJ l i=_:=rfl
  conv at u=>rhs;unfold dJ
  generalize l.getD i dd=t,dJ l i=tk at *;have au:=zA yA t.sec;cases G:t.used
  .rw[show yN t=dP false t by unfold yN dP;rw[G]]at Y;rw[G,Os zV]at u;unfold dP at Y;cases tk
   .rw[z Z];refine WW (I6 (λhc=>?_) (λhc hc=>?_) (λhc hc hc=>?_) (λhc hc hc hc=>?_) (λhc hc hc hc hc=>?_) (λhc hc hc hc hc=>?_))
    all_goals (first|exact zH|(exfalso;simp only[KJ]at u;have:=zFl u.symm;omega))
   .have hq:=u.symm;simp only[KJ,zBc]at hq;refine WW ?_
    all_goals (first|exact⟨E Z,rfl⟩|exact NW)
  .rw[show yN t=dP true t by unfold yN dP;rw[G]]at Y;rw[G,zA5 Z]at u;unfold dP at Y;unfold Gr at u;generalize OH t.rights=q0 at *;generalize ar:YB l (ln l+1) i 0=q2 at *;cases q0
   .simp only[zB8]at u;rw[z u];refine zS I (I2 (λhc=>?_) λhc=>?_)
    all_goals exact zH
   cases C:AN t
   .rw[C]at u;simp only[zC6,zB8]at u;rw[z u]
    (have ga:=I;have ge:=L;(repeat' (first|refine uT ?_|apply yW|apply xH|intro hc|(apply zG;first|refine SM ?_)|fail))<;>clear ga ge)
    all_goals (first|exact zH|(exfalso;simp only[AN,zBi]at C;omega))
   have ac:=C;simp only[AN,zBc]at ac;rw[C]at u;cases q2
   .simp only[zBh,zB8]at u;rw[z u];exact mx (xW I L)
   by_cases V:i=0
   .rw[zA9 V]at u;simp only[zBh,zDt]at u;refine yJ (xW I L) ?_;exact⟨E u,rfl⟩
   rw[zA7 V]at u;simp only[zBh,zDk]at u;obtain⟨p0,p1⟩:=ZZ (B Z zB);have ax:=yF yN l t.par p0 p1;generalize l.getD t.par.toNat dd=p at *;have W:=IM t.rights p.rights;have c5:=AQ t.til p.til;generalize od t.rights p.rights=q3,Er t.til p.til=q4 at *;clear B C;cases q3
   .rw[zB8,zB8]at u;rw[z u];exact mx (qM I L W)
   by_cases S:t.cls<=p.cls
   .rw[zA9 S,zBh,zBh]at u;cases q4
    ·(refine yJ (cM I L W c5) ?_)
     exact⟨E u,rfl⟩
    .rw[z u];exact mx (cM I L W c5)
   .rw[zA7 S,zBh,zB8]at u;rw[z u];exact mx (cM I L W c5)
 .rintro st ⟨hp,rfl⟩
  rw[show aT l=true by
   unfold aT;rw[zA9 h8,M,zBh,zBh]
   exact zBk.2 λi hi=>hp i (zBu.1 hi)]
  exact ly
def Hf (l:List Tk) (s:Int) (C:ln l=8):zO 237 [zE yN l,iA s] [] (iA (gB (λi=>YB l (ln l+1) i s) 8)) []:=by
 have hl:=zA yN l;generalize B:(λi:Nat=>YB l (ln l+1) i s)=p;refine eM call237 λF hF=>?_
 refine WW ?_;refine zN ((l.map yN).length) [] [] [0,1,8] [5,9,0,1,8] Z (λi T U=>⟨(5,iA (gB p i))::(9,iA i)::T,U⟩) (Lq ?_ ?_)
 .intro i hi;have hi':i<8:=by omega
  have c:=Jf l i s zB;have hb:=VN p i zB;have A:=BK i zB;rw[show YB l (ln l+1) i s=p i by rw[<-B]]at c
  have e:gB p (i+1)=if p i=true then gB p i+p2 i else gB p i:=rfl
  rw[e];generalize gB p i=b at *;cases u:p i
  .rw[u]at c;simp only[zGa,zF5];refine zS c ?_;rfl
  .rw[u]at c;simp only[zE8];refine zS c ?_;rfl
 .have z:(l.map yN).length=8:=by omega
  rw[z];exact ly
def RN (p:Nat->Bool) (l:List Tk) (n:Nat):List Tk:=(pi (ln l)).map λj=>if j<n/\p j=true then Ub else l.getD j dd
theorem FV (p:Nat->Bool) (l:List Tk) (n:Nat):(RN p l n).length=ln l:=by simp[RN]
theorem Bn (p:Nat->Bool) (l:List Tk):RN p l 0=l:=by apply zCf<;>grind [RN,List.getElem?_range,py,List.getElem?_eq_none]
theorem N3 (p:Nat->Bool) (l:List Tk) (n:Nat) (h:n<ln l):(RN p l n)[n]? =some (l.getD n dd):=by grind [RN]
theorem An (p:Nat->Bool) (l:List Tk) (n:Nat):RN p l (n+1)=if p n=true then(RN p l n).set n Ub else RN p l n:=by apply zCf<;>grind [RN,Ub,List.getElem?_range,List.getElem?_eq_none,Bool.false_eq_true,FV]
def Gf (l:List Tk) (hb:IP l) (p:Nat->Bool) (O:ln l=8):zO 238 [zE yN l,iA (gB p 8)] [] (zE yN (RN p l 8)) []:=by
 have c:=MU l hb;have L:=zA yN l;have I:=VN p 8 zB;have B:=zg p;generalize gB p 8=b at *;refine eM call238 λF hF=>?_
 refine zS c ?_;refine zN ((l.map yN).length) [1001] [] [1,5,10] [11,1,5,10] Z (λi T U=>⟨(11,iA i)::T,(1001,.arr 6 ((RN p l i).map yN) false)::U⟩) ?_;(conv=>whnf);refine⟨by(rw[Bn];rfl),?_,?_⟩
 .intro i hi;have hi':i<ln l:=by omega
  have R:((RN p l i).map yN)[i]? =some (yN (l.getD i dd)):=by rw[zBe,N3 p l i hi'];rfl
  have z:=An p l i;have u:=B i zB;have M:i<((RN p l i).map yN).length:=by rw[zA6,FV];exact hi'
  cases C:p i
  .rw[C]at u z;simp only[zGa,zF5]at z;rw[z];have A:jF (vX b i) 1≠1:=by simpa using u
   generalize (RN p l i).map yN=xs at *;refine WW ?_;rfl
  .rw[C]at u z;simp only[zE8]at z;have A:jF (vX b i) 1=1:=by simpa using u
   have E:(RN p l (i+1)).map yN=((RN p l i).map yN).set i (yN Ub):=by rw[z,zCs]
   generalize (RN p l i).map yN=xs,(RN p l (i+1)).map yN=ys at *;subst E
   (repeat' (first|refine WTR ?_|apply yW|apply xH|intro hc|(apply zG;first|(apply cE;refine ZR 22 Z Z Z ?_;refine pm tok Z Z Z WA Z Z Z Z Z Z ?_))|refine SB ?_|fail))
   rfl
 .have G:(l.map yN).length=8:=by omega
  rw[G];refine WW ?_;exact zI [] Z Z (zBq (AV.sl false) (zBf (by simp[FV];omega))) Z
theorem zo:∀(n:Nat) (f:Nat->Nat),(∀i,i<=n->f i<n)->∃i j,i<j/\j<=n/\f i=f j
 |0,f,h=>absurd (h 0 (zBb _)) (zC3 _)
 | n+1,f,h=>by
  by_cases u:∃i,i<=n/\f i=f (n+1)
  .obtain⟨i,h1,h2⟩:=u;exact⟨i,n+1,zB,zBb _,h2⟩
  .obtain⟨i,j,h1,h2,z⟩:=zo n (λi=>if f i<f (n+1)then f i else f i-1) λi hi=>by
    have A:=h i zB;have B:=h (n+1) (zBb _);have C:f i≠f (n+1):=λe=>u ⟨i,hi,e⟩
    split<;>omega
   refine⟨i,j,h1,zB,?_⟩;have A:f i≠f (n+1):=λe=>u ⟨i,zB,e⟩
   have B:f j≠f (n+1):=λe=>u ⟨j,h2,e⟩
   split at z<;>split at z<;>omega
def par (l:List Tk) (s:Int):Int:=(l.getD s.toNat dd).par
def AO (l:List Tk) (s:Int):Nat->Int
 |0=>s
 |k+1=>par l (AO l s k)
theorem YD (l:List Tk) (s:Int):∀k,AO l s (k+1)=AO l (par l s) k
 |0=>rfl
 |k+1=>by rw[AO,YD l s k];rfl
theorem FW (l:List Tk) (s:Int) (i:Nat):∀k,AO l s (i+k)=AO l (AO l s i) k
 |0=>rfl
 |k+1=>by rw[<-zGh,AO,FW l s i k];rfl
theorem XC (l:List Tk) (t:Int):∀(n:Nat) (s:Int),t∈ZY l n s↔∃k,k<n/\(∀j,j<=k->jZ l (AO l s j)=true)/\AO l s k=t
 |0,s=>by simp[ZY]
 | n +1,s=>by
  rw[eW];constructor
  .intro h;cases u:jZ l s
   .rw[u]at h;simp at h
   .rw[u,zCm,zCt]at h
    rcases h with rfl|h
    .exact⟨0,zB,λj hj=>by rw[Nat.le_zero.1 hj];exact u,rfl⟩
    .obtain⟨k,h1,h2,z⟩:=(XC l t n _).1 h;refine⟨k+1,zB,λj hj=>?_,by rw[YD];exact z⟩
     cases j with
     |zero=>exact u
     |succ j=>rw[YD];exact h2 j zB
  .rintro⟨k,h1,h2,z⟩;have u:=h2 0 (zBn _)
   change jZ l s=true at u
   rw[u,zCm,zCt]
   cases k with
   |zero=>exact .inl z.symm
   |succ k=>
    rw[YD]at z;refine .inr ((XC l t n _).2 ⟨k,zB,λj hj=>?_,z⟩);have:=h2 (j+1) zB;rw[YD]at this;exact this
theorem yo (I:ln l=8) (s t:Int) (n:Nat) (h:t∈ZY l n s):t∈ZY l 8 s:=by
 obtain⟨k,_,h2,u⟩:=(XC l t n s).1 h;clear h
 suffices ∀m k,k<=m->(∀j,j<=k->jZ l (AO l s j)=true)->AO l s k=t->t∈ZY l 8 s from this k k (zBb _) h2 u
 intro m
 induction m with
 |zero=>intro k hk h2 u;exact(XC l t 8 s).2 ⟨k,zB,h2,u⟩
 | succ m z=>
  intro k hk h2 u;by_cases h:k<8
  .grind [ZY,XC]
  obtain⟨i,j,C,E,G⟩:=zo 8 (λi=>(AO l s i).toNat) λi hi=>by
   have:=ZZ (h2 i zB);omega
  have e1:=ZZ (h2 i zB);have A:=ZZ (h2 j zB);have e3:AO l s i=AO l s j:=by omega
  have B:∀r,AO l s (i+r)=AO l s (j+r):=λr=>by rw[FW,FW,e3]
  refine z (i+(k-j)) zB (λr L=>h2 r zB) ?_
  grind
theorem wo (l:List Tk) {m:Nat} (u:n<=m) (h:t∈ZY l n s):t∈ZY l m s:=by grind [ZY,XC]
inductive Ff (l:List Tk):Int->Int->Prop
 |base (s:Int):jZ l s=true->Ff l s s
 |step (s t:Int):jZ l s=true->Ff l (par l s) t->Ff l s t
theorem FX (l:List Tk) (t:Int):∀(n:Nat) (s:Int),t∈ZY l n s->Ff l s t
 |0,s,h=>by simp[ZY]at h
 | n+1,s,h=>by
  rw[eW]at h;cases u:jZ l s
  .rw[u]at h;simp at h
  .rw[u,zCm,zCt]at h
   rcases h with rfl|h
   .exact .base _ u
   .exact .step _ _ u (FX l t n _ h)
theorem FY (h:Ff l s t):∃n,t∈ZY l n s:=by
 induction h with
 |base s u=>exact⟨1,by rw[eW,u,zCm];exact List.mem_cons_self⟩
 |step s t u _ A=>
  obtain⟨n,z⟩:=A;exact⟨n+1,by rw[eW,u,zCm];exact List.mem_cons_of_mem _ z⟩
theorem RO (u:ln l=8) (s t:Int):YB l 9 s t=true↔Ff l s t:=by
 rw[Cn,zCx];constructor
 .grind [YB,FX]
 .intro h;obtain⟨n,z⟩:=FY h;exact⟨t,wo l zB (yo u s t n z),by simp⟩
theorem M3 (u:ln l=8) (s t:Int):Wj l s t=true↔Ff l s t:=by grind [Wj,List.any_eq_true,FX,FY,yo]
theorem Ty (u:ln l=8) (s t:Int):Wj l s t=YB l 9 s t:=by
 rw[zFu,M3 u,RO u]
theorem Ef (l:List Tk):PG l=aT l:=by
 unfold PG aT;by_cases z:ln l=8
 case neg=>rw[zA7 zB];rfl
 rw[zA9 zB,zBh,zBh,z,zFu];simp only[zBg,zBk,zBu]
 have A:∀i:Nat,i<7->(MV l ((i:Int)+1)=dJ l (i+1)):=λi hi=>by
  unfold MV dJ;rw[Ty z,z,show(((i+1:Nat):Int)=(i:Int)+1) by omega,show((i:Int)+1).toNat=i+1 by omega,zA7 (by omega:¬i+1=0),zDk]
 constructor
 .rintro⟨h1,h2⟩;unfold IL at h1;simp only[zBg,zBc]at h1;obtain⟨⟨u,p,q⟩,r⟩:=h1;refine⟨by unfold YC;rw[u,p,q];rfl,λi hi=>?_⟩
  cases i with
  |zero=>
   grind [PG,aT,dJ,YB,RO,jZ]
  |succ i=>rw[<-A i zB];exact h2 i zB
 .rintro⟨h1,h2⟩;have B:=h2 0 zB
  grind [PG,aT,YC,dJ,IL]
structure TV (l:List Tk):Prop where
 n:l.length=8
 u:(l.getD 0 default).used=true
 p:(l.getD 0 default).par= -1
 e:(l.getD 0 default).til=0
 f:∀i,i<8->(l.getD i default).used=false->KJ (l.getD i default)=true
 s:∀i,i<8->(l.getD i default).used=true->Gr (l.getD i default)=true/\Ff l i 0/\(i≠0->od (l.getD i default).rights (l.getD (l.getD i default).par.toNat default).rights=true/\(l.getD i default).cls<=(l.getD (l.getD i default).par.toNat default).cls/\Er (l.getD i default).til (l.getD (l.getD i default).par.toNat default).til=false)
theorem L3 (l:List Tk):aT l=true↔TV l:=by
 unfold aT;simp only[zBg,zBc,zBk,zBu];constructor
 .rintro⟨z,h1,h2⟩;have z:ln l=8:=by omega
  unfold YC at h1;simp only[zBg,zBc]at h1;refine⟨z,h1.1,h1.2.1,h1.2.2,λi hi A=>?_,λi hi A=>?_⟩
  .grind [aT,dJ]
  .have:=h2 i zB;unfold dJ at this;rw[zA5 A,z]at this;simp only[zBg,zDi,zBc,zDo]at this
   grind [aT,RO]
 .rintro⟨z,u,p,e,f,s⟩;refine⟨zB,by unfold YC;rw[u,p,e];rfl,λi hi=>?_⟩;unfold dJ;cases A:(l.getD i dd).used
  .grind
  .rw[zA5 Z,z];obtain⟨a,b,c⟩:=s i zB A;simp only[zBg,zDi,zBc,zDo]
   grind [aT,RO]
theorem Du (l:List Tk) (s:Int):jZ l s=true↔∃i:Nat,s=i/\i<ln l/\(l.getD i dd).used=true:=by grind [jZ]
theorem Ff.us (h:Ff l s t):jZ l s=true:=by
 cases h<;>assumption
theorem Ff.trans {u:Int} (h:Ff l s t) (g:Ff l t u):Ff l s u:=by
 induction h with
 |base _ _=>exact g
 |step s t z _ A=>exact .step _ _ z (A g)
theorem J3 (u:ln l=8) (f3:Int):ZD l f3=RN (λj=>(pi 8).any λi=>jZ l i&&Vb (l.getD i dd) f3&&YB l 9 j i) l 8:=by
 unfold ZD RN;rw[u];apply zF2;intro j hj;rw[zBu]at hj;unfold FS
 have:((ZY l 8 j).any λa=>Vb (l.getD a.toNat dd) f3)=((pi 8).any λi=>jZ l i&&Vb (l.getD i dd) f3&&YB l 9 j i):=by
  rw[zFu,zCx,zCx];constructor
  .rintro⟨a,h1,h2⟩;have z:=ud _ _ _ h1
   grind [ZD,RN,jZ,Vb,YB,Du,Int.toNat_natCast,RO,FX]
  .rintro⟨i,_,h2⟩;simp only[zBg]at h2
   grind [ZD,RN,jZ,Vb,YB,FY,RO,yo,Int.toNat_natCast]
 grind
def uH (n a b:Int):Bool:=decide (a<=n/\n<=b)
def fU (n a b:Int):zO 148 [iA n,iA a,iA b] [] (bA (uH n a b)) []:=by
 (cases hb:uH n a b with|false=>((refine eM call148 λF hF=>?_);((refine WW (I2 (λhc=>?_) λhc=>?_)));all_goals (first|exact zH|(simp only[uH,zBi]at hb;first|exact NW|exact PY)))|true=>(simp only[uH,zBc]at hb;(refine eM call148 λF hF=>?_);((refine WW ?_));all_goals (first|exact zH|exact NW|exact PY)))
structure Sy (a:Ag):Prop where
 s:(a.sec.length:Int)=8
 l:(a.lim.length:Int)=4
 li:∀n∈a.lim,0<=n/\n<=8
 r:0<=a.rights/\a.rights<=63
 c:0<=a.cls/\a.cls<=3
 q:0<=a.req/\a.req<=4
 e:1<=a.ses/\a.ses<=2
 b:0<=a.burst/\a.burst<=1000
 t:0<=a.rate/\a.rate<=a.burst
def a0:Ag:=⟨cQ 1,1,0,[1,1,1,1],0,1,0,2⟩
theorem fA (n:Int):(cQ n).length=8:=by simp[cQ]
def Cu (n:Int):0<=IntKind.u8.wrap n/\IntKind.u8.wrap n<256:=by
 have:IntKind.u8.wrap n=n % 256:=rfl;omega
theorem OG (n:Int):BY (cQ n):=λx u=>by
 unfold cQ at u;rw[zCl]at u;obtain⟨i,_,rfl⟩:=u;exact Cu _
theorem vo {g:Int} {l:List Int} (z:0<=g/\g<256) (A:0<=s/\s<256) (hl:BY l):BY (g::s::l):=λx u=>by
 simp only[zCt]at u
 rcases u with rfl|rfl|u
 .exact z
 .exact A
 .exact hl x u
theorem D7 (n:Int) (a:Ag) (h:Sy a):IQ (PF n a):=by
 have h1:=h.s;have h2:=h.l;refine⟨⟨by simp[PF,Xb],λt u=>?_⟩,by unfold PF;dsimp only;omega,by unfold PF;dsimp only;omega,by simp[PF]⟩
 grind [PF,Xb,Ub]
section
open Go.RowKit
def LIn (k:IntKind) (w:World) (A:Option Addr) (n c:Nat) (xs:List Int):Prop:=
 (ln xs)=n/\n<=c/\c<=9223372036854775807/\(0<n->∃b o,A=some ⟨b,o,none⟩/\b<w.heap.size/\∀j,j<n->w.cell? ⟨b,o+j,none⟩=some (.int k (xs.getD j 0)))
theorem LIn.of_row {a:Option Addr} {len cap:Nat} {z:List Int}
 (h:(a=none/\len=0/\cap=0/\z=[])\/∃x,a=some x/\len<=cap/\cap<=maxLen/\z.length=cap/\(∀i,i<ln z->w.cell? (x.add i)=some (.int k (z.getD i 0)))/\∀n∈z,(Lit.int k n).wf=true):
  LIn k w a len cap (z.take len):=by
 rcases h with⟨rfl,rfl,rfl,rfl⟩|⟨x,rfl,h1,h2,G,C,_⟩
 .grind [LIn]
 .refine⟨by simp;omega,h1,by unfold maxLen at h2;omega,λI=>?_⟩;obtain⟨b,off,A⟩:=x;have hc:=C 0 zB;have u:A=none:=by simpa [Addr.add]using World.cell?_spot hc
  subst u;have B:w.cell? ⟨b,off,none⟩=some (.int k (z.getD 0 0)):=by simpa [Addr.add]using hc
  refine⟨b,off,rfl,World.block_lt_of_cell? w _ B,λj hj=>?_⟩;have E:=C j zB
  have e:(⟨b,off,none⟩:Addr).add j=⟨b,off+j,none⟩:=by unfold Addr.add;split<;>simp_all
  grind
theorem LIn.repf {A:Option Addr} {c:Nat} {xs:List Int} (h:LIn k w A n c xs) {D:Nat->Prop} (E:∀b,¬D b):xM w D (.sl false (xs.map λn=> .s (.int k n))) (.slice A n c):=by
 obtain⟨rfl,h2,I,C⟩:=h
 cases B:xs with
 |nil=>exact .nil A c
 | cons x r=>
  rw[<-B];obtain⟨b,o,rfl,hb,hc⟩:=C (by rw[B];simp)
  have:=xM.sl (w:=w) (D:=D) false (xs.map λn=>AV.s (.int k n)) b o 1 c (λi _=> .int k (xs.getD i 0)) (by rw[B];simp)
   ⟨hb,E b,zBb _,by simp[cF];omega,λi y u=>by
    rw[zBe,zBp]at u;obtain⟨z,_,rfl⟩:=u
    rfl,λi j hi hj=>by
    obtain rfl:j=0:=by omega
    rw[Nat.mul_one,zDw]
    exact hc i ML,λ_ _ _ _=>rfl⟩ IE (λi y j v u hv=>by
    rw[zBe,zBp]at u;obtain⟨z,G,rfl⟩:=u
    cases j with
    |zero=>
     simp[AV.cells]at hv;subst hv;have:xs.getD i 0=z:=by simp[py,G]
     rw[this];exact .s _
    |succ j=>simp[AV.cells]at hv)
  simpa using this
theorem xP.law {P:Program} {f:Nat} {args:List AV} (h:xP P f args [] (.s (.bool true)) []) {u:Array Value} {w:World} (hl:u.size=ln args)
  (B:∀(i:Nat) v,args[i]? =some v->xM w (xT (λ_=>False) λ_=>[]) v (u.getD i undef)):Calls P f u w λe w'=>e= .returned (.bool true)/\Below w.heap.size w w':=by
 have H:jM (λ_=>False) (zD []) (λ_=>[]) w:=⟨λk e z=>by simp[zD]at z,λ_ _=>rfl,λk C b n E h1 _=>by simp at h1,λk b n h1=>by simp at h1,λb hd=>by
  rcases hd with hd|⟨_,_,hd⟩
  .exact hd.elim
  .simp at hd⟩
 refine Calls.mono (h.sim (λ_=>False) w (λ_=>[]) u hl H λi v hv=> .fz _ _ (B i v hv)) ?_;rintro e w' ⟨c,β',rfl,G,hc⟩;have:c= .bool true:=hc.s_inv;subst this;exact⟨rfl,G.os,G.tape,G.output,G.size,λk hk=>G.keep k hk λ_ _ A=>by simp at A⟩
def dom0:∀b,¬xT (λ_=>False) (λ_=>[]) b:=λb hd=>by
 rcases hd with hd|⟨_,_,hd⟩
 .exact hd
 .simp at hd
def YE (w:World):List AV->List Value->Prop
 | [],[]=>True
 |a::r,c::s=>xM w (xT (λ_=>False) λ_=>[]) a c/\YE w r s
 |_,_=>False
theorem YE.len :∀{l:List AV} {s:List Value},YE w l s->ln s=ln l
 | [],[],_=>rfl
 |_::_,_::_,h=>by simp[YE.len h.2]
 | [],_::_,h=>h.elim
 |_::_,[],h=>h.elim
theorem YE.at :∀{l:List AV} {s:List Value},YE w l s->∀(i:Nat) v,l[i]? =some v->xM w (xT (λ_=>False) λ_=>[]) v (s.getD i undef)
 | [],[],_,i,v,hv=>by simp at hv
 |a::_,c::_,h,0,v,hv=>by simp at hv;subst hv;exact h.1
 |_::_,_::_,h,i+1,v,hv=>by simpa using YE.at h.2 i v BV
 | [],_::_,h,_,_,_=>h.elim
 |_::_,[],h,_,_,_=>h.elim
theorem xP.lawL {P:Program} {f:Nat} {args:List AV} (h:xP P f args [] (.s (.bool true)) []) {cs:List Value} {w:World} (u:YE w args cs):Calls P f cs.toArray w λe w'=>e= .returned (.bool true)/\Below w.heap.size w w':=
 h.law (by simpa using u.len) λi v hv=>by simpa [zB4,py]using u.at i v hv
theorem LIn.le {A:Option Addr} {c:Nat} {xs:List Int} (h:LIn k w A n c xs):ln xs<=9223372036854775807:=by grind [LIn]
end
