/- Part 9. -/
import Derived.Test.YtdjfiebpnmieoaaGreatC08
import Derived.WalkKit
import Derived.ProofKit
namespace Go.Proofs.YtdjfiebpnmieoaaGreat.Av
open Tryz
set_option linter.all false
set_option maxRecDepth 4000
set_option maxHeartbeats 1000000
open List renaming length->ln,replicate->nm,range->ny,getD->oj
open Inhabited renaming default->dd
variable {s t:Int}{k:IntKind}{l:List Tk}{n:Nat}{w:World}
def WM (l:List Tk):Nat->Int->List Int
 |0,_=>[]
 |n+1,s=>bif gU l s then s::WM l n (l.getD s.toNat dd).par else []
def cE (l:List Tk) (k:Nat) (a:Int):WM l (k+1) a=bif gU l a then a::WM l k (l.getD a.toNat dd).par else []:=rfl
def WN (h:gU l s=true):0<=s/\s<ln l:=by grind [gU]
theorem Te :∀(n:Nat) (s x:Int),x∈WM l n s->gU l x=true
 |0,s,x,h=>by simp[WM]at h
 | n+1,s,x,h=>by
  unfold WM at h
  cases u:gU l s<;>rw[u]at h
  .simp at h
  .rw[zBr,zBv]at h
   rcases h with rfl|h
   .exact u
   .exact Te n _ x h
def Gp (l:List Tk) (s:Int):List (Nat×wB):=[(1003,.box [iA s]),(1004,.box [zD yP l])]
def ay (l:List Tk) (s:Int):zO 252 [zD yP l,iA s] [] (.fn 301 [.ptr 1003 0 0,.ptr 1004 0 0]) (Gp l s):=by
 refine eM call252 λF hF=>?_
 repeat' (first|(apply zG;first|refine qB (fF (v:=AV.sl _ _) 1004 Z Z) Z Z Z ?_|refine qB (fF (v:=AV.s _) 1003 Z Z) Z Z Z ?_|refine wX tok Z Z ?_|apply uT)|(first|apply xK|apply xF|refine vQ Z ?_|refine yM Z ?_|refine yB Z ?_|refine xU Z (λhc=>?_) λhc=>?_|apply xB|apply xG|apply xJ|apply xE))
 exact zP [1003,1004] Z Z Z Z
def Fp (l:List Tk) (s:Int):VT prog 301 [.ptr 1003 0 0,.ptr 1004 0 0] (Gp l s) ((WM l 8 s).map λx=>[iA x]):=by
 have hl:=zA yP l;refine YC func301 Z (λargs w=>call301 args w) Z Z Z (λF y I z G=>?_);unfold Gp;refine WW ?_;refine yW (8) [1003,1004] [1003,1004] [0,2] [4,6,1000000,0,2] Z (λi T U L=>∃(a:Int) (ga:List Int),(WM l 8 s=ga++WM l (8-i) a/\ga.length=i)/\L=⟨(4,iA a)::(6,iA i)::(1000000,.gh i)::T,U⟩) (Lp ?_ ?_ ?_)
 .exact⟨s,[],⟨rfl,rfl⟩,rfl⟩
 .rintro i st hi ⟨a,ga,⟨hp,hpl⟩,rfl⟩;have c:=Xd l a;obtain⟨k,hk⟩:∃k,8-i=k+1:=⟨7-i,zB⟩;rw[hk,cE l k a]at hp
  cases C:gU l a<;>rw[C]at c hp
  .rw[zCc,zA2]at hp;refine zQ c ?_;exact ZD Z (.inl (by rw[zAa,hp,hpl]))
  .rw[zBr]at hp;obtain⟨E,h1⟩:=WN C;have M:=yF yP l a E h1;have u:((WM l 8 s).map λx=>[iA x])[i]? =some [iA a]:=by rw[hp];simp[<-hpl]
   have B:i<((WM l 8 s).map λx=>[iA x]).length:=(zAz.1 u).1;generalize ((WM l 8 s).map λx=>[iA x])=xs at *;have A:WM l 8 s=(ga++[a])++WM l (8-(i+1)) (l.getD a.toNat dd).par:=by rw[hp,show 8-(i+1)=k by omega];simp
   generalize l.getD a.toNat dd=t at*
   (repeat' (first|refine uD ?_|apply yZ|apply xM|intro hc|(apply zG;apply xO;first|(first|(refine vG 302 ?_;first|refine yE (zL (c) Z Z Z Z Z) Z ?_|refine qB (zL (c) Z Z Z Z Z) Z Z Z ?_|refine ZR (zL (c) Z Z Z Z Z) Z Z Z ?_))|(apply ia;refine MP z G Z Z u Z Z Z ?_ ?_))|(apply zG;first|refine SM ?_)|fail))
   .exact⟨t.par,ga++[a],⟨A,by simp[hpl]⟩,rfl⟩
   .exact ZD Z (.inr zB)
 .rintro st ⟨a,ga,⟨hp,hpl⟩,rfl⟩;rw[show WM l (8-8) a=[]from rfl,zA2]at hp;refine WW ?_;exact XZ rfl (.inl (by rw[zAa,hp,hpl]))
def Oj (l:List Tk) (s u:Int):Bool:=(WM l 8 s).any λa=>a==u
def Ep (l:List Tk) (s u:Int):zO 386 [zD yP l,iA s,iA u] [] (bA (Oj l s u)) []:=by
 have c:=ay l s;unfold Gp at c;refine eM call386 λF hF=>?_
 refine zQ c ?_;refine qH hF (Fp l s) Z [5,6] [5,6] Z Z Z Z Z Z Z Z Z (λi ys h=>?_) (λ_=>[(5,.box [iA u]),(6,.box [.s (.bool false)])]) (λi=>∀x∈(WM l 8 s).take i,x≠u) (T:=[(5,.ptr 5 0 0),(6,.ptr 6 0 0)]) Z zW (λi ys y B E I h1 h2=>?_) (λE=>?_)
 .rw[zAi,zAs]at h;obtain⟨x,_,rfl⟩:=h;rfl
 .rw[zAi,zAs]at B;obtain⟨x,hx,rfl⟩:=B
  show uR _ I _ _ ⟨[(11,iA x),(5,.ptr 5 0 0),(6,.ptr 6 0 0)],[(5,.box [iA u]),(6,.box [.s (.bool false)])]⟩ _
  have A:x∈WM l 8 s:=zB1 hx;refine WW ?_;refine⟨rfl,λL M O=>?_⟩;by_cases G:x=u
  .have hd:Oj l s u=true:=zBz.2 ⟨x,A,by simpa using G⟩;rw[hd];exact lc
  ·(refine WW ?_)
   refine⟨rfl,λz C=>?_⟩;rw[zCz,hx]at C;simp only[Option.toList_some,zA5,zBf]at C
   rcases C with C|rfl
   .exact E z C
   .exact G
 .rw[zAa,zAb]at E;have hd:Oj l s u=false:=zCy.2 λx hx=>by simpa using E x hx
  rw[hd];exact lc
def Tb (l:List Tk) (f4:Int) (j:Nat):Tk:=if(WM l 8 j).any (λa=>pc (l.getD a.toNat dd) f4)=true then nc else l.getD j dd
def NS (l:List Tk) (f4:Int) (s:Nat):List Tk:=(ny (ln l)).map λj=>if j<s then Tb l f4 j else l.getD j dd
def WP (l:List Tk) (f4:Int):List Tk:=(ny (ln l)).map (Tb l f4)
def DT (l:List Tk) (f4:Int) (s:Nat):(NS l f4 s).length=ln l:=by simp[NS]
def Dp (l:List Tk) (f4:Int):NS l f4 0=l:=by apply zBb<;>grind [NS,List.getElem?_range,oj,List.getElem?_eq_none]
def Rv (l:List Tk) (f4:Int):NS l f4 (ln l)=WP l f4:=by grind [NS,WP,List.map_congr_left]
def Cp (l:List Tk) (f4:Int) (s:Nat) (h:s<ln l):(NS l f4 s)[s]? =some (l.getD s dd):=by grind [NS]
def Bp (l:List Tk) (f4:Int) (s:Nat):NS l f4 (s+1)=(NS l f4 s).set s (Tb l f4 s):=by apply zBb<;>grind [NS,Tb,List.getElem?_range,List.getElem?_eq_none]
theorem Ap (l:List Tk) (hb:GD l) (f4:Int):zO 214 [zD yP l,iA f4] [] (zD yP (WP l f4)) []:=by
 have c:=TP l hb;have hn:=hb.n;have M:=zA yP l;refine eM call214 λF hF=>?_
 refine zQ c ?_;refine zN ((l.map yP).length) [1001,2,3,5] [2,3,5] [2,3,5,11,18] [12,2,3,5,11,18] Z (λi T U=>⟨(12,iA i)::T,(1001,.arr 6 ((NS l f4 i).map yP) false)::U⟩) ?_;(conv=>whnf);refine⟨by(rw[Dp];rfl),?_,?_⟩
 .intro i hi;have hi':i<ln l:=by omega
  have O:=ay l i;unfold Gp at O;have hy:((NS l f4 i).map yP)[i]? =some (yP (l.getD i dd)):=by rw[zAi,Cp l f4 i hi'];rfl
  have R:=Bp l f4 i;have L:=Wd;have ac:i<((NS l f4 i).map yP).length:=by rw[zAa,DT];exact hi'
  refine zQ O ?_
  refine qH hF (Fp l i) Z [2,3,5,6,1001] [2,3,5,6,11,12] Z Z Z Z Z Z Z Z Z (λk ys h=>?_) (λ_=>[(2,.box [zD yP l]),(3,.box [iA f4]),(5,.box [.ref 1001 0 (l.map yP).length]),(6,.box [iA i]),(1001,.arr 6 ((NS l f4 i).map yP) false)]) (λk=>∀x∈(WM l 8 i).take k,pc (l.getD x.toNat dd) f4=false)
   (T:=[(2,.ptr 2 0 0),(3,.ptr 3 0 0),(5,.ptr 5 0 0),(6,.ptr 6 0 0),(11,iA (l.map yP).length),(12,iA i)]) Z zW (λk ys y A C S h1 h2=>?_) (λC=>?_)
  .rw[zAi,zAs]at h;obtain⟨x,_,rfl⟩:=h;rfl
  .rw[zAi,zAs]at A;obtain⟨x,hx,rfl⟩:=A
   show uR _ S _ _ ⟨[(18,iA x),(2,.ptr 2 0 0),(3,.ptr 3 0 0),(5,.ptr 5 0 0),(6,.ptr 6 0 0),(11,iA (l.map yP).length),(12,iA i)],[(2,.box [zD yP l]),(3,.box [iA f4]),(5,.box [.ref 1001 0 (l.map yP).length]),(6,.box [iA i]),(1001,.arr 6 ((NS l f4 i).map yP) false)]⟩ _
   have u:x∈WM l 8 i:=zB1 hx;obtain⟨V,W⟩:=WN (Te _ _ _ u);have ag:=yF yP l x V W;have E:=GC (l.getD x.toNat dd) f4;refine WW ?_;refine⟨rfl,λF2 g1 g2=>?_⟩
   cases I:pc (l.getD x.toNat dd) f4<;>rw[I]at E
   ·(refine zQ E ?_)
    refine⟨rfl,λz B=>?_⟩;rw[zCz,hx]at B;simp only[Option.toList_some,zA5,zBf]at B
    rcases B with B|rfl
    .exact C z B
    .exact I
   .have G:(NS l f4 (i+1)).map yP=((NS l f4 i).map yP).set i (yP nc):=by
     rw[R,Tb,Os (zBz.2 ⟨x,u,I⟩),zBs]
    generalize (NS l f4 i).map yP=xs,(NS l f4 (i+1)).map yP=ys at *;subst G;refine yJ (xV E L) ?_;rfl
  .rw[zAa,zAb]at C
   have G:(NS l f4 (i+1)).map yP=(NS l f4 i).map yP:=by
    rw[R,Tb,Of (by simpa using C)]
    congr 1
    have:=Cp l f4 i hi';rw[zAz]at this;obtain⟨h,e⟩:=this;rw[<-e,zFx]
   generalize (NS l f4 i).map yP=xs,(NS l f4 (i+1)).map yP=ys at *;subst G;refine WW ?_;rfl
 .have Y:(l.map yP).length=((NS l f4 (ln l)).map yP).length:=by simp[DT]
  rw[<-Rv];rw[M]at *; refine WW ?_;exact zH [] Z Z (zAv (AV.sl false) (zAj (by simp[DT]))) Z
def Cg (a:Ag):List Tk:=⟨true,a.sec,-1,a.rights,a.cls,0⟩::nm 7 nc
def zT:AV:= .agg [.s (.bool false),.s (.slice none 0 0),.s (.int .i64 0),.s (.int .i64 0),.s (.int .i64 0),.s (.int .i64 0)]
def tc (i:Nat):List AV:=nm i (yP nc)++nm (8-i) zT
def Z3 (i:Nat) (h:i<8):(tc i)[i]? =some zT:=by grind [tc,zT]
def Qv (i:Nat) (h:i<8):(tc i).set i (yP nc)=tc (i+1):=by
 unfold tc;rw[show 8-i=(8-(i+1))+1 by omega,zD3 (n:=8-(i+1)),zDe _ _ zW,zB6,zCl,zEb,zD7 (n:=i),zA0];rfl
def Y3 (a:Ag) (hs:ln a.sec<=1000000):zO 136 [vX a] [] (zD yP (Cg a)) []:=by
 have A:=Wd;have cs:=vJ a.sec zB;obtain⟨N,hN⟩:∃N:Nat,N=8:=⟨8,rfl⟩;refine eM call136 λF hF=>?_
 refine WW ?_;refine zN (N) [5,1] [1] [1] [8,7,3,1] Z (λi T U=>⟨(8,iA i)::(7,iA N)::(3,.ref 5 0 N)::T,(5,.arr 6 (tc i) false)::U⟩) ?_;(conv=>whnf);refine⟨by(rw[hN];rfl),?_,?_⟩
 .intro i hi;have z:=Z3 i zB;have e:=Qv i zB;have u:(tc i).length=8:=by unfold tc;simp;omega
  generalize tc i=xs,tc (i+1)=ys at *;subst e;unfold zT at z;refine zQ A ?_;rfl
 .rw[show tc N=tc 8 by rw[hN]];have z:(tc 8)[0]? =some (yP nc):=rfl;have B:(tc 8).set 0 (yP ⟨true,a.sec,-1,a.rights,a.cls,0⟩)=(Cg a).map yP:=rfl;have u:(tc 8).length=8:=rfl;generalize tc 8=xs at *;unfold yP at z;refine zQ cs ?_;exact zH [] Z Z (zAv (AV.sl false) ((zAj uH).trans B)) Z
def NT (n:Int) (a:Ag):Rg:=⟨n,a,Cg a,[],⟨a.burst,a.rate,a.burst⟩⟩
def W3 (n:Int) (a:Ag) (hs:ln a.sec<=1000000) (hl:ln a.lim<=1000000):zO 72 [iA n,vX a] [] (qD (NT n a)) []:=by
 have u:=aa a hs hl;have z:=Y3 a hs;have A:=M0 a.rate a.burst;unfold NT;generalize Cg a=B at *;refine eM call72 λF hF=>?_
 exact ld (kC u z A)
def yq (g s:Int) (l:List Int) (hl:ln l<=1000000) (z:0<=g) (A:g<256) (B:0<=s) (C:s<256):zO 84 [iA g,iA s,zD yA l] [] (zD yA (g::s::l)) []:=by
 have u:=zA yA l;refine eM call84 λF hF=>?_
 refine WW ?_;exact zH [] Z Z (zAv (AV.sl false) (zAj zW)) Z
def V3 (a b:List Int):zO 343 [zD yA a,zD yA b] [] (bA (Zi a b)) []:=by
 refine eM call343 λF hF=>?_
 exact lc
def uj (l:List Tk) (b:List Int):Tk:=l.getD (b.getD 1 dd).toNat dd
def GZ (l:List Tk) (g:Int) (b:List Int) (k f4:Int):Bool:=decide ((ln b:Int)=10/\b.getD 0 dd=g)&&gU l (b.getD 1 dd)&&(Zi (b.drop 2) (uj l b).sec&& !pc (uj l b) f4&&Vj (uj l b).rights k)
def Pv (l:List Tk) (g:Int) (b:List Int) (k f4:Int) (hb:BY b):zO 304 [zD yP l,iA g,zD yA b,iA k,iA f4] [] (.tup [iA (if GZ l g b k f4=true then b.getD 1 dd else 0),iA (if GZ l g b k f4=true then 0 else 9)]) []:=by
 have L:=zA yA b;have M:=zA yP l;by_cases h1:(ln b:Int)=10
 case neg=>
  have e:GZ l g b k f4=false:=by unfold GZ;rw[zAc (λh=>h1 h.1)];rfl
  rw[e];refine eM call304 λF hF=>?_
  exact lc
 have B:=yF yA b 0 zB zB;have C:=yF yA b 1 zB zB;have Y:0<=b.getD 0 dd/\b.getD 0 dd<256:=hb _ Pg;have b1:0<=b.getD 1 dd/\b.getD 1 dd<256:=hb _ Pg
 change (b.map yA)[0]? =some (yA (b.getD 0 dd))at B
 change (b.map yA)[1]? =some (yA (b.getD 1 dd))at C
 unfold GZ uj;generalize b.getD 0 dd=W,b.getD 1 dd=z at *;by_cases h2:W=g
 case neg=>
  rw[zAc (λh=>h2 h.2)];refine eM call304 λF hF=>?_
  exact lc
 rw[zAd ⟨h1,h2⟩];have u:=Xd l z;cases A:gU l z
 .rw[A]at u;refine eM call304 λF hF=>?_
  exact lk u
 rw[A]at u;obtain⟨U,V⟩:=WN A;have O:=yF yP l z U V;generalize l.getD z.toNat dd=t at *;have E:=V3 (b.drop 2) t.sec;have I:=GC t f4;have G:=gi t.rights k;generalize Zi (b.drop 2) t.sec=q1,pc t f4=R,Vj t.rights k=S at *
 cases q1<;>cases R<;>cases S<;>((refine eM call304 λF hF=>?_);exact ld (aB u E I G))
def rgZ:Rg:=⟨0,⟨[],0,0,[],0,0,0,0⟩,[],[],⟨0,0,0⟩⟩
def QZ (k:Int):Bool:=decide (2<=k/\k<=8)
def Bg (r:Rg) (m:Ms) (f4:Int):Int:=if GZ r.tk r.num m.tok m.kind f4=true then(if QZ m.kind=true/\r.bk.level<=0 then 13 else 0)else 9
def xq (r:Rg) (m:Ms) (f4:Int):Rg:=if Bg r m f4=0 then(if QZ m.kind=true then⟨r.num,r.ag,r.tk,r.vh,PX r.bk⟩else r)else rgZ
def oy (r:Rg) (m:Ms) (f4:Int):Int:=if Bg r m f4=0 then m.tok.getD 1 dd else 0
def U3 (r:Rg) (m:Ms) (f4:Int) (G:EM r) (E:BY m.tok) (hl:r.bk.level<=1000000):zO 257 [qD r,yC m,iA f4] [] (.tup [qD (xq r m f4),iA (oy r m f4),iA (Bg r m f4)]) []:=by
 have u:=Pv r.tk r.num m.tok m.kind f4 E;have A:=bJ r G;have z:=tu r.bk zB;unfold xq oy Bg
 cases B:GZ r.tk r.num m.tok m.kind f4<;>rw[B]at u
 ·(refine eM call257 λF hF=>?_)
  exact lk u
 .generalize m.tok.getD 1 dd=C at *;cases hk:QZ m.kind
  .have hk':¬(2<=m.kind/\m.kind<=8):=zEc hk;refine eM call257 λF hF=>?_
   refine yJ (xV u A) (I2 (λhc=>?_) λhc=>?_)
   all_goals (first|exact KP|exact zI)
  .have hk':2<=m.kind/\m.kind<=8:=zD0 hk;by_cases hv:r.bk.level<=0
   .rw[zAc zB]at z;simp only[hv,and_self,zEp];refine eM call257 λF hF=>?_
    exact ld (kC u A z)
   .rw[zAd zB]at z;simp only[hv,zEx,zE9,zEp];generalize hb:PX r.bk=I at *;refine eM call257 λF hF=>?_
    exact ld (kC u A z)
def S3 (r:Rg) (f4:Int):Rg:=⟨r.num,r.ag,WP r.tk f4,r.vh,O6 r.bk⟩
def Ov (r:Rg) (f4:Int) (u:EM r) (hl: -1000000<=r.bk.level+r.bk.rate/\r.bk.level+r.bk.rate<=1000000):zO 176 [qD r,iA f4] [] (qD (S3 r f4)) []:=by
 have z:=bJ r u;have A:=Ap r.tk u.tk f4;have B:=su r.bk zB;unfold S3;generalize WP r.tk f4=E,O6 r.bk=C at *;refine eM call176 λF hF=>?_
 exact ld (kC z A B)
def IC (l:List Tk) (hb:GD l):zO 191 [zD yP l] [] (.ref 1001 0 (l.map yP).length) [(1001,.arr 6 (l.map yP) false)]:=by
 have C:=hb.n;have u:=zA yP l;refine eM call191 λF hF=>?_
 (repeat' (first|refine uD ?_|apply yZ|apply xM|intro hc|fail))
 refine zS 3 1001 6 Z Z Z ?_;refine zU (l) [1001] [] [6,7] [3,8,6,7] Z (λi ga T U=>⟨(3,.ref 1001 0 (ga.map yP).length)::(8,iA i)::T,(1001,.arr 6 (ga.map yP) true)::U⟩) (Lq ?_ ?_)
 .intro i ga x post hx hi;have E:=yI yP hx hi;have z:=zV hx hi;have A:(ga.map yP).length=i:=by rw[zAa,hi]
  have hs:=hb.s x (yV hx);have B:=zA yA x.sec;have e:(ga++[x]).map yP=ga.map yP++[yP x]:=by simp
  clear hx;rw[e];generalize ga.map yP=xs,l.map yP=G at *;refine WL ?_;rfl
 ·(repeat' (first|refine Md ?_|apply yZ|apply xM|intro hc|fail))
  refine jK [1001] [2] Z Z ?_;refine kV 1001 [2] Z Z Z Z Z (xG ?_);exact zP [1001] Z Z Z Z
def wq (l:List Tk) (hb:GD l):zO 191 [zD yP l] [] (zD yP l) []:=by
 have C:=hb.n;have u:=zA yP l;refine eM call191 λF hF=>?_
 (repeat' (first|refine uD ?_|apply yZ|apply xM|intro hc|fail))
 refine zS 3 1001 6 Z Z Z ?_;refine zU (l) [1001] [] [6,7] [3,8,6,7] Z (λi ga T U=>⟨(3,.ref 1001 0 (ga.map yP).length)::(8,iA i)::T,(1001,.arr 6 (ga.map yP) true)::U⟩) (Lq ?_ ?_)
 .intro i ga x post hx hi;have E:=yI yP hx hi;have z:=zV hx hi;have A:(ga.map yP).length=i:=by rw[zAa,hi]
  have hs:=hb.s x (yV hx);have B:=zA yA x.sec;have e:(ga++[x]).map yP=ga.map yP++[yP x]:=by simp
  clear hx;rw[e];generalize ga.map yP=xs,l.map yP=G at *;refine WL ?_;rfl
 ·(refine WL ?_)
  exact zH [] Z Z (dP _ _) Z
def dV (r:Rg) (hb:EM r):zO 143 [qD r] [] (qD r) []:=by
 have c:=wq r.tk hb.tk;have h1:=hb.s;have h2:=hb.l;have u:=hb.v;have z:=zA yA r.ag.sec;have A:=zA iA r.ag.lim;have B:=zA vE r.vh;refine eM call143 λF hF=>?_
 exact mx c
def qj (a:Ag) (i:Nat):List AV:=yP ⟨true,a.sec,-1,a.rights,a.cls,0⟩::nm i (yP nc)
def Nv (a:Ag) (hs:ln a.sec<=1000000):zO 144 [vX a] [] (zD yP (Cg a)) []:=by
 have u:=zA yA a.sec;obtain⟨N,hN⟩:∃N:Nat,N=7:=⟨7,rfl⟩;refine eM call144 λF hF=>?_
 (repeat' (first|refine dZ ?_|apply yZ|apply xM|intro hc|(apply zG;first|(apply yR;refine qB (nw:=[1001]) (yT tok 1001 (xs:=[.agg [.s (.bool true),.sl false (a.sec.map yA),.s (.int .i64 (-1)),.s (.int .i64 a.rights),.s (.int .i64 a.cls),.s (.int .i64 0)]]) Z Z Z Z Z Z Z Z Z) Z Z Z ?_)|refine SL ?_)|refine SB ?_|fail))
 refine uG 1001 Z ?_;refine zN (N) [1001] [] [] [3] Z (λi T U=>⟨(3,.ref 1001 0 (qj a i).length)::T,(1001,.arr 6 (qj a i) true)::U⟩) (Lq ?_ ?_)
 .intro i hi;have hl:(qj a i).length=i+1:=by simp[qj]
  have e:qj a (i+1)=qj a i++[yP nc]:=by unfold qj;rw[zD7];rfl
  have hh:∀y,(qj a i)[0]? =some y->ln y.cells=6:=λy z=>by cases z;rfl
  rw[e];generalize qj a i=xs at*
  (repeat' (first|refine dZ ?_|apply yZ|apply xM|intro hc|(apply zG;first|(apply yR;refine QF 17 Z Z Z ?_;refine kD tok Z Z ?_))|refine SB ?_|fail))
  rfl
 .have hl:(qj a N).length=N+1:=by simp[qj]
  rw[show Cg a=Cg a from Z];have e:(qj a N).take (qj a N).length=(Cg a).map yP:=by rw[zAb,hN];rfl
  refine WL ?_;exact zH [] Z Z (zAv (AV.sl false) e) Z
def Mv (n:Int) (a:Ag) (hs:ln a.sec<=1000000) (hl:ln a.lim<=1000000):zO 78 [iA n,vX a] [] (qD (NT n a)) []:=by
 have z:=Nv a hs;have A:=ru a.rate a.burst
 have hb:EM (NT n a):=⟨⟨by simp[NT,Cg],λt u=>by
  simp only[NT,Cg,zBv]at u
  rcases u with rfl|u
  .exact hs
  .rw[List.eq_of_mem_replicate u];simp[nc]⟩,hs,hl,by simp[NT]⟩
 have B:=dV (NT n a) hb;unfold NT at *;generalize Cg a=C at *;refine eM call78 λF hF=>?_
 exact ld (kC z A B)
def Sb (t:Tk):Bool:=decide ((ln t.sec:Int)=8/\0<=t.cls/\t.cls<=3/\0<=t.til/\t.til<=2147483648)
def Dr (t:Tk):Bool:=ML t.rights&&Sb t
def DU (t:Tk):zO 405 [yP t] [] (bA (Dr t)) []:=by
 have c:=VO t.rights;have hl:=zA yA t.sec;unfold Dr;generalize ML t.rights=v at *;cases v
 .rw[zA7];refine eM call405 λF hF=>?_
  refine zQ c (I2 (λhc=>?_) λhc=>?_)
  all_goals exact zI
 .rw[zAo]
  (cases hb:Sb t with|false=>((refine eM call405 λF hF=>?_);((refine zQ c (I5 (λhc hc hc hc=>?_) (λhc hc hc hc=>?_) (λhc hc hc=>?_) (λhc hc=>?_) λhc=>?_)));all_goals (first|exact zI|(simp only[Sb,zAk]at hb;first|exact KP|exact MO)))|true=>(simp only[Sb,zAe]at hb;(refine eM call405 λF hF=>?_);((refine zQ c ?_));all_goals (first|exact zI|exact KP|exact MO)))
def HF (t:Tk):Bool:=decide ((ln t.sec:Int)=0/\t.par= -1/\t.rights=0/\t.cls=0/\t.til=0)
def cU (u:Bool) (t:Tk):AV:= .agg [bA u,zD yA t.sec,iA t.par,iA t.rights,iA t.cls,iA t.til]
def vq (t:Tk):zO 406 [cU false t] [] (bA (HF t)) []:=by
 have hl:=zA yA t.sec
 (cases hb:HF t with|false=>((refine eM call406 λF hF=>?_);((refine WW (I5 (λhc hc hc hc=>?_) (λhc hc hc hc=>?_) (λhc hc hc=>?_) (λhc hc=>?_) λhc=>?_)));all_goals (first|exact zI|(simp only[HF,zAk]at hb;first|exact KP|exact MO)))|true=>(simp only[HF,zAe]at hb;(refine eM call406 λF hF=>?_);((refine WW ?_));all_goals (first|exact zI|exact KP|exact MO)))
def ID (l:List Tk) (s:Int):Bool:=if(l.getD s.toNat dd).used=true then Dr (l.getD s.toNat dd)&&Oj l s 0&&(Zd (l.getD s.toNat dd).rights (l.getD (l.getD s.toNat dd).par.toNat dd).rights&&decide ((l.getD s.toNat dd).cls<=(l.getD (l.getD s.toNat dd).par.toNat dd).cls)&& !Ir (l.getD s.toNat dd).til (l.getD (l.getD s.toNat dd).par.toNat dd).til)
 else HF (l.getD s.toNat dd)
def FA (t:Tk):Bool:=t.used&&decide (t.par= -1/\t.til=0)&&Dr t
def NU (l:List Tk):Bool:=decide ((ln l:Int)=8)&&(FA (l.getD 0 dd)&&(ny 7).all λi=>ID l ((i:Int)+1))
def R3 {i:Nat} (hi:i<7) (h:ID l ((i:Int)+1)=false):NU l=false:=by grind [ID,NU]
def Lv (h:Oj l s 0=true) (u:s≠0):gU l (l.getD s.toNat dd).par=true:=by
 unfold Oj at h;rw[cE l 7 s]at h
 cases z:gU l s<;>rw[z]at h
 .simp at h
 .rw[zBr,zF0]at h;have:(s==0)=false:=by simpa using u
  rw[this,zCp,cE l 6]at h
  grind
theorem PA (l:List Tk):zO 381 [zD yP l] [] (bA (NU l)) []:=by
 have ag:=zA yP l;by_cases h8:(ln l:Int)=8
 case neg=>
  rw[show NU l=false by unfold NU;rw[zAc h8];rfl];refine eM call381 λF hF=>?_
  exact lc
 have I:=yF yP l 0 zB zB
 change (l.map yP)[0]? =some (yP (l.getD 0 dd))at I
 cases L:FA (l.getD 0 dd)
 .rw [show NU l=false by unfold NU;rw[L];simp];have c:=DU (l.getD 0 dd);unfold FA at L;generalize l.getD 0 dd=t at *;generalize Dr t=q at *;cases B:t.used
  .rw[show yP t=cU false t by unfold yP cU;rw[B]]at *; unfold cU at *;refine eM call381 λF hF=>?_
   exact lk c
  .rw[show yP t=cU true t by unfold yP cU;rw[B]]at *; unfold cU at *;by_cases h1:t.par= -1
   .by_cases h2:t.til=0
    .rw[B,zAd ⟨h1,h2⟩,zAo,zAo]at L;subst L;refine eM call381 λF hF=>?_
     exact lk c
    ·(refine eM call381 λF hF=>?_)
     exact lk c
   ·(refine eM call381 λF hF=>?_)
    exact lk c
 have M:=DU (l.getD 0 dd);have G:=L;unfold FA at G;simp only[zAn,zAe]at G;obtain⟨⟨B,h1,h2⟩,h3⟩:=G;have A:=I;rw[h3]at M;rw[show yP (l.getD 0 dd)=cU true (l.getD 0 dd) by unfold yP cU;rw[B]]at A M;unfold cU at A M;clear I;generalize ar:l.getD 0 dd=t0 at A M h1 h2;refine eM call381 λF hF=>?_
 refine zQ M ?_;refine yW (7) [] [] [0] [4,0] Z (λi T U zs=>(∀s:Nat,s<i->ID l ((s:Int)+1)=true)/\zs=⟨(4,iA ((i:Int)+1))::T,U⟩) (Lp ?_ ?_ ?_)
 .exact⟨λs hs=>absurd hs (zB7 _),rfl⟩
 .rintro i st hi ⟨hp,rfl⟩
  have E:ID l ((i:Int)+1)=true->∀s:Nat,s<i+1->ID l ((s:Int)+1)=true:=λh s hs=>by
   by_cases ac:s=i
   .subst ac;exact h
   .exact hp s zB
  have z:=λh=>R3 (l:=l) hi h
  have Y:=yF yP l ((i:Int)+1) zB zB;have C:=DU (l.getD ((i:Int)+1).toNat dd);have V:=vq (l.getD ((i:Int)+1).toNat dd);have O:=Ep l ((i:Int)+1) 0;have S:=Lv (l:=l) (s:=(i:Int)+1);have u:ID l ((i:Int)+1)=_:=rfl
  conv at u=>rhs;unfold ID
  generalize l.getD ((i:Int)+1).toNat dd=t,ID l ((i:Int)+1)=tk at *;cases B:t.used
  .rw[show yP t=cU false t by unfold yP cU;rw[B]]at Y;rw[B,Of zW]at u;rw[<-u]at V;unfold cU at Y V;cases tk
   .rw[z Z];exact lk V
   ·(refine zQ V ?_)
    exact⟨E Z,by rw[zFo];rfl⟩
  .rw[show yP t=cU true t by unfold yP cU;rw[B]]at Y C;rw[B,Os Z]at u;unfold cU at Y C;generalize Dr t=q1 at *;generalize ap:Oj l ((i:Int)+1) 0=q2 at *;cases q1
   .rw[zA7,zA7]at u;rw[z u];exact lk C
   cases q2
   .rw[zAo,zA7]at u;rw[z u];exact ld (xV C O)
   rw[zAo,zAo]at u;obtain⟨p0,p1⟩:=WN (S Z zB);have au:=yF yP l t.par p0 p1;generalize l.getD t.par.toNat dd=p at *;have W:=ua t.rights p.rights;have c5:=yg t.til p.til;generalize Zd t.rights p.rights=q3,Ir t.til p.til=q4 at *;cases q3
   .rw[zA7,zA7]at u;rw[z u];exact ld (kC C O W)
   by_cases R:t.cls<=p.cls
   .rw[zAd R,zAo,zAo]at u;cases q4
    ·(refine yJ (aB C O W c5) ?_)
     exact⟨E u,by rw[zFo];rfl⟩
    .rw[z u];exact ld (aB C O W c5)
   .rw[zAc R,zAo,zA7]at u;rw[z u];exact ld (aB C O W c5)
 .rintro st ⟨hp,rfl⟩
  rw[show NU l=true by
   unfold NU;rw[zAd h8,L,zAo,zAo]
   exact zAq.2 λi hi=>hp i (zA3.1 hi)]
  exact lc
def WQ (l:List Tk):Nat->Int->Int->Bool
 |0,_,_=>false
 |n+1,f,t=>gU l f&&(f==t||WQ l n (l.getD f.toNat dd).par t)
def IE (l:List Tk) (n:Nat) (f t:Int):WQ l (n+1) f t=(gU l f&&(f==t||WQ l n (l.getD f.toNat dd).par t)):=rfl
theorem uq (l:List Tk) (t:Int):∀(n:Nat) (f:Int),WQ l n f t=(WM l n f).any λa=>a==t
 |0,_=>rfl
 |n+1,f=>by
  rw[IE,cE];cases gU l f
  .rfl
  .rw[zBr,zF0,uq l t n,zAo]
def zh (l:List Tk) (f t:Int) (G:ln l<=1000000):zO 326 [zD yP l,iA f,iA t] [] (bA (WQ l (ln l+1) f t)) []:=by
 have hl:=zA yP l;generalize C:WQ l (ln l+1) f t=R;refine eM call326 λF hF=>?_
 refine WW ?_;refine yW (ln l+1) [] [] [0,2] [1,7,0,2] Z (λi T U E=>∃(a:Int),(R=WQ l (ln l+1-i) a t)/\E=⟨(1,iA a)::(7,iA i)::T,U⟩) (Lp ?_ ?_ ?_)
 .exact⟨f,C.symm,rfl⟩
 .rintro i st hi ⟨a,hp,rfl⟩;obtain⟨k,hk⟩:∃k,ln l+1-i=k+1:=⟨ln l-i,zB⟩;rw[hk,IE l k a t]at hp;have hk':ln l+1-(i+1)=k:=by omega
  unfold gU at hp;by_cases A:0<=a
  .by_cases h1:a<ln l
   .have z:=yF yP l a A h1;rw[zAd ⟨A,h1⟩,zAo]at hp;generalize l.getD a.toNat dd=x at *;cases u:x.used
    .rw[u,zA7]at hp;rw[show yP x=cU false x by unfold yP cU;rw[u]]at z;unfold cU at z;rw[hp];exact lc
    .rw[u,zAo]at hp;rw[show yP x=cU true x by unfold yP cU;rw[u]]at z;unfold cU at z;by_cases B:a=t
     .rw[show(a==t)=true by simpa using B,zC6]at hp;rw[hp];exact lc
     .rw[show(a==t)=false by simpa using B,zCp]at hp;refine WW ?_;exact⟨x.par,by rw[hk'];exact hp,by rw[zFo];rfl⟩
   .rw[zAc zB]at hp;simp only[zA7]at hp;rw[hp];exact lc
  .rw[zAc zB]at hp;simp only[zA7]at hp;rw[hp];exact lc
 .rintro st ⟨a,hp,rfl⟩;rw[zCl]at hp;rw[hp];exact lc
def cP (l:List Tk) (s:Nat):Bool:=if(l.getD s dd).used=true then Dr (l.getD s dd)&&WQ l (ln l+1) s 0&&(decide (s=0)||(Zd (l.getD s dd).rights (l.getD (l.getD s dd).par.toNat dd).rights&&decide ((l.getD s dd).cls<=(l.getD (l.getD s dd).par.toNat dd).cls)&& !Ir (l.getD s dd).til (l.getD (l.getD s dd).par.toNat dd).til))
 else HF (l.getD s dd)
def WR (t:Tk):Bool:=t.used&&decide (t.par= -1/\t.til=0)
def YS (l:List Tk):Bool:=decide ((ln l:Int)=8)&&(WR (l.getD 0 dd)&&(ny (ln l)).all λi=>cP l i)
def Kv {i:Nat} (hi:i<ln l) (h:cP l i=false):YS l=false:=by grind [cP,YS]
def Jv (h:WQ l (n+1) s 0=true) (u:s≠0):gU l (l.getD s.toNat dd).par=true:=by
 rw[IE l n s 0]at h;have:(s==0)=false:=by simpa using u
 rw[this,zCp,zAn]at h
 cases n with
 |zero=>exact absurd h.2 (by simp[WQ])
 |succ n=>
  grind [WQ,gU]
theorem OH (l:List Tk):zO 398 [zD yP l] [] (bA (YS l)) []:=by
 have ap:=zA yP l;by_cases h8:(ln l:Int)=8
 case neg=>
  rw[show YS l=false by unfold YS;rw[zAc h8];rfl];refine eM call398 λF hF=>?_
  exact lc
 have R:=yF yP l 0 zB zB
 change (l.map yP)[0]? =some (yP (l.getD 0 dd))at R
 cases M:WR (l.getD 0 dd)
 .rw [show YS l=false by unfold YS;rw[M];simp];unfold WR at M;generalize l.getD 0 dd=t at *;cases G:t.used
  .rw[show yP t=cU false t by unfold yP cU;rw[G]]at *; unfold cU at *;refine eM call398 λF hF=>?_
   exact lc
  .rw[show yP t=cU true t by unfold yP cU;rw[G]]at *; unfold cU at *;rw[G,zAo]at M;by_cases h1:t.par= -1
   .by_cases h2:t.til=0
    .rw[zAd ⟨h1,h2⟩]at M;cases M
    ·(refine eM call398 λF hF=>?_)
     exact lc
   ·(refine eM call398 λF hF=>?_)
    exact lc
 have O:=M;unfold WR at O;simp only[zAn,zAe]at O;obtain⟨G,h1,h2⟩:=O;have A:=R;rw[show yP (l.getD 0 dd)=cU true (l.getD 0 dd) by unfold yP cU;rw[G]]at A;unfold cU at A;clear R;generalize av:l.getD 0 dd=t0 at A h1 h2;refine eM call398 λF hF=>?_
 refine WW ?_;clear A;refine yW (ln l) [] [] [0,30,31] [32,0,30,31] Z (λi T U zs=>(∀s:Nat,s<i->cP l s=true)/\zs=⟨(32,iA i)::T,U⟩) (Lp ?_ ?_ ?_)
 .exact⟨λs hs=>absurd hs (zB7 _),rfl⟩
 .rintro i st hi ⟨hp,rfl⟩
  have E:cP l i=true->∀s:Nat,s<i+1->cP l s=true:=λh s hs=>by
   by_cases ag:s=i
   .subst ag;exact h
   .exact hp s zB
  have z:=λh=>Kv (l:=l) hi h
  have Y:=zJ yP l i hi;have I:=VP (l.getD i dd).rights;have L:=zh l i 0 zB;have B:=Jv (l:=l) (n:=ln l) (s:=i);rw[zAx]at B;have u:cP l i=_:=rfl
  conv at u=>rhs;unfold cP
  generalize l.getD i dd=t,cP l i=tk at *;have au:=zA yA t.sec;cases G:t.used
  .rw[show yP t=cU false t by unfold yP cU;rw[G]]at Y;rw[G,Of zW]at u;unfold cU at Y;cases tk
   .rw[z Z];refine WW (I6 (λhc=>?_) (λhc hc=>?_) (λhc hc hc=>?_) (λhc hc hc hc=>?_) (λhc hc hc hc hc=>?_) (λhc hc hc hc hc=>?_))
    all_goals (first|exact zI|(exfalso;simp only[HF]at u;have:=zEc u.symm;omega))
   .have hq:=u.symm;simp only[HF,zAe]at hq;refine WW ?_
    all_goals (first|exact⟨E Z,rfl⟩|exact KP)
  .rw[show yP t=cU true t by unfold yP cU;rw[G]]at Y;rw[G,Os Z]at u;unfold cU at Y;unfold Dr at u;generalize ML t.rights=q0 at *;generalize ar:WQ l (ln l+1) i 0=q2 at *;cases q0
   .simp only[zA7]at u;rw[z u];refine zQ I (I2 (λhc=>?_) λhc=>?_)
    all_goals exact zI
   cases C:Sb t
   .rw[C]at u;simp only[zCa,zA7]at u;rw[z u]
    (have gd:=I;have gn:=L;(repeat' (first|refine uD ?_|apply yZ|apply xM|intro hc|(apply zG;first|refine SM ?_)|fail))<;>clear gd gn)
    all_goals (first|exact zI|(exfalso;simp only[Sb,zAk]at C;omega))
   have ac:=C;simp only[Sb,zAe]at ac;rw[C]at u;cases q2
   .simp only[zAo,zA7]at u;rw[z u];exact ld (xV I L)
   by_cases V:i=0
   .rw[zAd V]at u;simp only[zAo,zC6]at u;refine yJ (xV I L) ?_;exact⟨E u,rfl⟩
   rw[zAc V]at u;simp only[zAo,zCp]at u;obtain⟨p0,p1⟩:=WN (B Z zB);have ax:=yF yP l t.par p0 p1;generalize l.getD t.par.toNat dd=p at *;have W:=GA t.rights p.rights;have c5:=qa t.til p.til;generalize Zd t.rights p.rights=q3,Ir t.til p.til=q4 at *;clear B C;cases q3
   .rw[zA7,zA7]at u;rw[z u];exact ld (kC I L W)
   by_cases S:t.cls<=p.cls
   .rw[zAd S,zAo,zAo]at u;cases q4
    ·(refine yJ (aB I L W c5) ?_)
     exact⟨E u,rfl⟩
    .rw[z u];exact ld (aB I L W c5)
   .rw[zAc S,zAo,zA7]at u;rw[z u];exact ld (aB I L W c5)
 .rintro st ⟨hp,rfl⟩
  rw[show YS l=true by
   unfold YS;rw[zAd h8,M,zAo,zAo]
   exact zAq.2 λi hi=>hp i (zA3.1 hi)]
  exact lc
def yh (l:List Tk) (s:Int) (C:ln l=8):zO 278 [zD yP l,iA s] [] (iA (fA (λi=>WQ l (ln l+1) i s) 8)) []:=by
 have hl:=zA yP l;generalize B:(λi:Nat=>WQ l (ln l+1) i s)=p;refine eM call278 λF hF=>?_
 refine WW ?_;refine zN ((l.map yP).length) [] [] [0,1,8] [5,9,0,1,8] Z (λi T U=>⟨(5,iA (fA p i))::(9,iA i)::T,U⟩) (Lq ?_ ?_)
 .intro i hi;have hi':i<8:=by omega
  have c:=zh l i s zB;have hb:=SJ p i zB;have A:=Za i zB;rw[show WQ l (ln l+1) i s=p i by rw[<-B]]at c
  have e:fA p (i+1)=if p i=true then fA p i+p2 i else fA p i:=rfl
  rw[e];generalize fA p i=b at *;cases u:p i
  .rw[u]at c;simp only[zFe,zE9];refine zQ c ?_;rfl
  .rw[u]at c;simp only[zEp];refine zQ c ?_;rfl
 .have z:(l.map yP).length=8:=by omega
  rw[z];exact lc
def OI (p:Nat->Bool) (l:List Tk) (n:Nat):List Tk:=(ny (ln l)).map λj=>if j<n/\p j=true then nc else l.getD j dd
theorem DV (p:Nat->Bool) (l:List Tk) (n:Nat):(OI p l n).length=ln l:=by simp[OI]
def qq (p:Nat->Bool) (l:List Tk):OI p l 0=l:=by apply zBb<;>grind [OI,List.getElem?_range,oj,List.getElem?_eq_none]
def Q3 (p:Nat->Bool) (l:List Tk) (n:Nat) (h:n<ln l):(OI p l n)[n]? =some (l.getD n dd):=by grind [OI]
def kq (p:Nat->Bool) (l:List Tk) (n:Nat):OI p l (n+1)=if p n=true then(OI p l n).set n nc else OI p l n:=by apply zBb<;>grind [OI,nc,List.getElem?_range,List.getElem?_eq_none,Bool.false_eq_true,DV]
def xh (l:List Tk) (hb:GD l) (p:Nat->Bool) (O:ln l=8):zO 279 [zD yP l,iA (fA p 8)] [] (zD yP (OI p l 8)) []:=by
 have c:=IC l hb;have L:=zA yP l;have I:=SJ p 8 zB;have B:=Jg p;generalize fA p 8=b at *;refine eM call279 λF hF=>?_
 refine zQ c ?_;refine zN ((l.map yP).length) [1001] [] [1,5,10] [11,1,5,10] Z (λi T U=>⟨(11,iA i)::T,(1001,.arr 6 ((OI p l i).map yP) false)::U⟩) ?_;(conv=>whnf);refine⟨by(rw[qq];rfl),?_,?_⟩
 .intro i hi;have hi':i<ln l:=by omega
  have R:((OI p l i).map yP)[i]? =some (yP (l.getD i dd)):=by rw[zAi,Q3 p l i hi'];rfl
  have z:=kq p l i;have u:=B i zB;have M:i<((OI p l i).map yP).length:=by rw[zAa,DV];exact hi'
  cases C:p i
  .rw[C]at u z;simp only[zFe,zE9]at z;rw[z];have A:jZ (vO b i) 1≠1:=by simpa using u
   generalize (OI p l i).map yP=xs at *;refine WW ?_;rfl
  .rw[C]at u z;simp only[zEp]at z;have A:jZ (vO b i) 1=1:=by simpa using u
   have E:(OI p l (i+1)).map yP=((OI p l i).map yP).set i (yP nc):=by rw[z,zBs]
   generalize (OI p l i).map yP=xs,(OI p l (i+1)).map yP=ys at *;subst E
   (repeat' (first|refine O8 ?_|apply yZ|apply xM|intro hc|(apply zG;first|(apply gA;refine QF 22 Z Z Z ?_;refine XY tok Z Z Z vF Z Z Z Z Z Z ?_))|refine SB ?_|fail))
   rfl
 .have G:(l.map yP).length=8:=by omega
  rw[G];refine WW ?_;exact zH [] Z Z (zAv (AV.sl false) (zAj (by simp[DV];omega))) Z
theorem jq:∀(n:Nat) (f:Nat->Nat),(∀i,i<=n->f i<n)->∃i j,i<j/\j<=n/\f i=f j
 |0,f,h=>absurd (h 0 (zAg _)) (zB7 _)
 | n+1,f,h=>by
  by_cases hx:∃i,i<=n/\f i=f (n+1)
  .obtain⟨i,h1,h2⟩:=hx;exact⟨i,n+1,zB,zAg _,h2⟩
  .obtain⟨i,j,h1,h2,u⟩:=jq n (λi=>if f i<f (n+1)then f i else f i-1) λi hi=>by
    have z:=h i zB;have A:=h (n+1) (zAg _);have B:f i≠f (n+1):=λe=>hx ⟨i,hi,e⟩
    split<;>omega
   refine⟨i,j,h1,zB,?_⟩;have z:f i≠f (n+1):=λe=>hx ⟨i,zB,e⟩
   have A:f j≠f (n+1):=λe=>hx ⟨j,h2,e⟩
   split at u<;>split at u<;>omega
def par (l:List Tk) (s:Int):Int:=(l.getD s.toNat dd).par
def Rb (l:List Tk) (s:Int):Nat->Int
 |0=>s
 |k+1=>par l (Rb l s k)
theorem WU (l:List Tk) (s:Int):∀k,Rb l s (k+1)=Rb l (par l s) k
 |0=>rfl
 |k+1=>by rw[Rb,WU l s k];rfl
theorem DW (l:List Tk) (s:Int) (i:Nat):∀k,Rb l s (i+k)=Rb l (Rb l s i) k
 |0=>rfl
 |k+1=>by rw[<-zFj,Rb,DW l s i k];rfl
theorem UA (l:List Tk) (t:Int):∀(n:Nat) (s:Int),t∈WM l n s↔∃k,k<n/\(∀j,j<=k->gU l (Rb l s j)=true)/\Rb l s k=t
 |0,s=>by simp[WM]
 | n +1,s=>by
  rw[cE];constructor
  .intro h;cases u:gU l s
   .rw[u]at h;simp at h
   .rw[u,zBr,zBv]at h
    rcases h with rfl|h
    .exact⟨0,zB,λj hj=>by rw[Nat.le_zero.1 hj];exact u,rfl⟩
    .obtain⟨k,h1,h2,z⟩:=(UA l t n _).1 h;refine⟨k+1,zB,λj hj=>?_,by rw[WU];exact z⟩
     cases j with
     |zero=>exact u
     |succ j=>rw[WU];exact h2 j zB
  .rintro⟨k,h1,h2,z⟩;have u:=h2 0 (zAr _)
   change gU l s=true at u
   rw[u,zBr,zBv]
   cases k with
   |zero=>exact .inl z.symm
   |succ k=>
    rw[WU]at z;refine .inr ((UA l t n _).2 ⟨k,zB,λj hj=>?_,z⟩);have:=h2 (j+1) zB;rw[WU]at this;exact this
theorem gq (I:ln l=8) (s t:Int) (n:Nat) (h:t∈WM l n s):t∈WM l 8 s:=by
 obtain⟨k,_,h2,u⟩:=(UA l t n s).1 h;clear h
 suffices ∀m k,k<=m->(∀j,j<=k->gU l (Rb l s j)=true)->Rb l s k=t->t∈WM l 8 s from this k k (zAg _) h2 u
 intro m
 induction m with
 |zero=>intro k hk h2 u;exact(UA l t 8 s).2 ⟨k,zB,h2,u⟩
 | succ m z=>
  intro k hk h2 u;by_cases h:k<8
  .grind [WM,UA]
  obtain⟨i,j,C,E,G⟩:=jq 8 (λi=>(Rb l s i).toNat) λi hi=>by
   have:=WN (h2 i zB);omega
  have e1:=WN (h2 i zB);have A:=WN (h2 j zB);have e3:Rb l s i=Rb l s j:=by omega
  have B:∀r,Rb l s (i+r)=Rb l s (j+r):=λr=>by rw[DW,DW,e3]
  refine z (i+(k-j)) zB (λr L=>h2 r zB) ?_
  grind
def dq (l:List Tk) {m:Nat} (u:n<=m) (h:t∈WM l n s):t∈WM l m s:=by grind [WM,UA]
inductive wh (l:List Tk):Int->Int->Prop
 |base (s:Int):gU l s=true->wh l s s
 |step (s t:Int):gU l s=true->wh l (par l s) t->wh l s t
theorem DX (l:List Tk) (t:Int):∀(n:Nat) (s:Int),t∈WM l n s->wh l s t
 |0,s,h=>by simp[WM]at h
 | n+1,s,h=>by
  rw[cE]at h;cases u:gU l s
  .rw[u]at h;simp at h
  .rw[u,zBr,zBv]at h
   rcases h with rfl|h
   .exact .base _ u
   .exact .step _ _ u (DX l t n _ h)
theorem DY (h:wh l s t):∃n,t∈WM l n s:=by
 induction h with
 |base s u=>exact⟨1,by rw[cE,u,zBr];exact List.mem_cons_self⟩
 |step s t u _ A=>
  obtain⟨n,z⟩:=A;exact⟨n+1,by rw[cE,u,zBr];exact List.mem_cons_of_mem _ z⟩
theorem OJ (u:ln l=8) (s t:Int):WQ l 9 s t=true↔wh l s t:=by
 rw[uq,zBz];constructor
 .grind [WQ,DX]
 .intro h;obtain⟨n,z⟩:=DY h;exact⟨t,dq l zB (gq u s t n z),by simp⟩
def P3 (u:ln l=8) (s t:Int):Oj l s t=true↔wh l s t:=by grind [Oj,List.any_eq_true,DX,DY,gq]
theorem my (u:ln l=8) (s t:Int):Oj l s t=WQ l 9 s t:=by
 rw[zEz,P3 u,OJ u]
def uh (l:List Tk):NU l=YS l:=by
 unfold NU YS;by_cases z:ln l=8
 case neg=>rw[zAc zB];rfl
 rw[zAd zB,zAo,zAo,z,zEz];simp only[zAn,zAq,zA3]
 have hs:∀i:Nat,i<7->(ID l ((i:Int)+1)=cP l (i+1)):=λi hi=>by
  unfold ID cP;rw[my z,z,show(((i+1:Nat):Int)=(i:Int)+1) by omega,show((i:Int)+1).toNat=i+1 by omega,zAc (by omega:¬i+1=0),zCp]
 constructor
 .rintro⟨h1,h2⟩;unfold FA at h1;simp only[zAn,zAe]at h1;obtain⟨⟨u,p,q⟩,r⟩:=h1;refine⟨by unfold WR;rw[u,p,q];rfl,λi hi=>?_⟩
  cases i with
  |zero=>
   grind [NU,YS,cP,WQ,OJ,gU]
  |succ i=>rw[<-hs i zB];exact h2 i zB
 .rintro⟨h1,h2⟩;have A:=h2 0 zB
  grind [NU,YS,WR,cP,FA]
structure TV (l:List Tk):Prop where
 n:l.length=8
 u:(l.getD 0 default).used=true
 p:(l.getD 0 default).par= -1
 e:(l.getD 0 default).til=0
 f:∀i,i<8->(l.getD i default).used=false->HF (l.getD i default)=true
 s:∀i,i<8->(l.getD i default).used=true->Dr (l.getD i default)=true/\wh l i 0/\(i≠0->Zd (l.getD i default).rights (l.getD (l.getD i default).par.toNat default).rights=true/\(l.getD i default).cls<=(l.getD (l.getD i default).par.toNat default).cls/\Ir (l.getD i default).til (l.getD (l.getD i default).par.toNat default).til=false)
def O3 (l:List Tk):YS l=true↔TV l:=by
 unfold YS;simp only[zAn,zAe,zAq,zA3];constructor
 .rintro⟨z,h1,h2⟩;have z:ln l=8:=by omega
  unfold WR at h1;simp only[zAn,zAe]at h1;refine⟨z,h1.1,h1.2.1,h1.2.2,λi hi A=>?_,λi hi A=>?_⟩
  .grind [YS,cP]
  .have:=h2 i zB;unfold cP at this;rw[Os A,z]at this;simp only[zAn,zCm,zAe,zCx]at this
   grind [YS,OJ]
 .rintro⟨z,u,p,e,f,s⟩;refine⟨zB,by unfold WR;rw[u,p,e];rfl,λi hi=>?_⟩;unfold cP;cases A:(l.getD i dd).used
  .grind
  .rw[Os Z,z];obtain⟨a,b,c⟩:=s i zB A;simp only[zAn,zCm,zAe,zCx]
   grind [YS,OJ]
theorem Iv (l:List Tk) (s:Int):gU l s=true↔∃i:Nat,s=i/\i<ln l/\(l.getD i dd).used=true:=by grind [gU]
theorem wh.us (h:wh l s t):gU l s=true:=by
 cases h<;>assumption
theorem wh.trans {u:Int} (h:wh l s t) (g:wh l t u):wh l s u:=by
 induction h with
 |base _ _=>exact g
 |step s t z _ A=>exact .step _ _ z (A g)
def N3 (u:ln l=8) (f4:Int):WP l f4=OI (λj=>(ny 8).any λi=>gU l i&&pc (l.getD i dd) f4&&WQ l 9 j i) l 8:=by
 unfold WP OI;rw[u];apply List.map_congr_left;intro j hj;rw[zA3]at hj;unfold Tb
 have:((WM l 8 j).any λa=>pc (l.getD a.toNat dd) f4)=((ny 8).any λi=>gU l i&&pc (l.getD i dd) f4&&WQ l 9 j i):=by
  rw[zEz,zBz,zBz];constructor
  .rintro⟨a,h1,h2⟩;have z:=Te _ _ _ h1
   grind [WP,OI,gU,pc,WQ,Iv,Int.toNat_natCast,OJ,DX]
  .rintro⟨i,_,h2⟩;simp only[zAn]at h2
   grind [WP,OI,gU,pc,WQ,DY,OJ,gq,Int.toNat_natCast]
 grind
def uQ (n a b:Int):Bool:=decide (a<=n/\n<=b)
def uZ (n a b:Int):zO 69 [iA n,iA a,iA b] [] (bA (uQ n a b)) []:=by
 (cases hb:uQ n a b with|false=>((refine eM call69 λF hF=>?_);((refine WW (I2 (λhc=>?_) λhc=>?_)));all_goals (first|exact zI|(simp only[uQ,zAk]at hb;first|exact KP|exact MO)))|true=>(simp only[uQ,zAe]at hb;(refine eM call69 λF hF=>?_);((refine WW ?_));all_goals (first|exact zI|exact KP|exact MO)))
structure Hv (a:Ag):Prop where
 s:(a.sec.length:Int)=8
 l:(a.lim.length:Int)=4
 li:∀n∈a.lim,0<=n/\n<=8
 r:0<=a.rights/\a.rights<=63
 c:0<=a.cls/\a.cls<=3
 q:0<=a.req/\a.req<=4
 e:1<=a.ses/\a.ses<=2
 b:0<=a.burst/\a.burst<=1000
 t:0<=a.rate/\a.rate<=a.burst
def ry {n a b:Int} (h:a<=n/\n<=b):uQ n a b=true:=zAd h
def gj (a:Ag) (h:Hv a):zO 71 [vX a] [] (bA true) []:=by
 obtain⟨h1,h2,G,L,M,O,R,S,V⟩:=h;have hs:=zA yA a.sec;have hl:=zA iA a.lim;have u:=uZ a.rights 0 63;have z:=uZ a.cls 0 3;have A:=uZ a.req 0 4;have B:=uZ a.ses 1 2;have C:=uZ a.burst 0 1000;have E:=uZ a.rate 0 a.burst;rw[ry zB]at u z A B C E;refine eM call71 λF hF=>?_
 refine WW ?_;refine zU (a.lim) [1] [1] [1,16,17] [18,1,16,17] Z (λi ga T U=>⟨(18,iA i)::T,U⟩) (Lq ?_ ?_)
 .intro i ga x post hx hi;have Y:=yI iA hx hi;have I:=zV hx hi;have W:=G x (yV hx);have c:=uZ x 0 8;rw[ry zB]at c;clear hx;refine zQ c ?_;rfl
 .exact ld (Ld u z A B C E)
def a0:Ag:=⟨Id 1,1,0,[1,1,1,1],0,1,0,2⟩
def aq (n:Int):(Id n).length=8:=by simp[Id]
def B6 (n:Int) (a:Ag) (h:Hv a):EM (NT n a):=by
 have h1:=h.s;have h2:=h.l;refine⟨⟨by simp[NT,Cg],λt u=>?_⟩,by unfold NT;dsimp only;omega,by unfold NT;dsimp only;omega,by simp[NT]⟩
 grind [NT,Cg,nc]
section
open Go.RowKit
def LIn (k:IntKind) (w:World) (A:Option Addr) (n c:Nat) (xs:List Int):Prop:=
 (ln xs)=n/\n<=c/\c<=9223372036854775807/\(0<n->∃b o,A=some ⟨b,o,none⟩/\b<w.heap.size/\∀j,j<n->w.cell? ⟨b,o+j,none⟩=some (.int k (xs.getD j 0)))
theorem LIn.of_row {a:Option Addr} {len cap:Nat} {z:List Int}
 (h:(a=none/\len=0/\cap=0/\z=[])\/∃x,a=some x/\len<=cap/\cap<=maxLen/\z.length=cap/\(∀i,i<ln z->w.cell? (x.add i)=some (.int k (z.getD i 0)))/\∀n∈z,(Lit.int k n).wf=true):
  LIn k w a len cap (z.take len):=by
 rcases h with⟨rfl,rfl,rfl,rfl⟩|⟨x,rfl,h1,h2,G,C,_⟩
 .grind [LIn]
 .refine⟨by simp;omega,h1,by unfold maxLen at h2;omega,λI=>?_⟩;obtain⟨b,off,A⟩:=x;have hc:=C 0 zB;have u:A=none:=by simpa [Addr.add]using World.cell?_spot hc
  subst u;have B:w.cell? ⟨b,off,none⟩=some (.int k (z.getD 0 0)):=by simpa [Addr.add]using hc
  refine⟨b,off,rfl,World.block_lt_of_cell? w _ B,λj hj=>?_⟩;have E:=C j zB
  have e:(⟨b,off,none⟩:Addr).add j=⟨b,off+j,none⟩:=by unfold Addr.add;split<;>simp_all
  grind
theorem LIn.repf {A:Option Addr} {c:Nat} {xs:List Int} (h:LIn k w A n c xs) {D:Nat->Prop} (C:∀b,¬D b):xS w D (.sl false (xs.map λn=> .s (.int k n))) (.slice A n c):=by
 obtain⟨rfl,h2,G,B⟩:=h
 cases hx:xs with
 |nil=>exact .nil A c
 | cons x r=>
  rw[<-hx];obtain⟨b,o,rfl,hb,hc⟩:=B (by rw[hx];simp)
  have:=xS.sl (w:=w) (D:=D) false (xs.map λn=>AV.s (.int k n)) b o 1 c (λi _=> .int k (xs.getD i 0)) (by rw[hx];simp)
   ⟨hb,C b,zAg _,by simp[aP];omega,λi y u=>by
    rw[zAi,zAs]at u;obtain⟨z,_,rfl⟩:=u
    rfl,λi j hi hj=>by
    obtain rfl:j=0:=by omega
    rw[Nat.mul_one,zC8]
    exact hc i Pa,λ_ _ _ _=>rfl⟩ Oa (λi y j v u hv=>by
    rw[zAi,zAs]at u;obtain⟨z,E,rfl⟩:=u
    cases j with
    |zero=>
     simp[AV.cells]at hv;subst hv;have:xs.getD i 0=z:=by simp[oj,E]
     rw[this];exact .s _
    |succ j=>simp[AV.cells]at hv)
  simpa using this
theorem xR.law {P:Program} {f:Nat} {args:List AV} (h:xR P f args [] (.s (.bool true)) []) {u:Array Value} {w:World} (hl:u.size=ln args)
  (B:∀(i:Nat) v,args[i]? =some v->xS w (xX (λ_=>False) λ_=>[]) v (u.getD i undef)):Calls P f u w λe w'=>e= .returned (.bool true)/\Below w.heap.size w w':=by
 have H:gW (λ_=>False) (zE []) (λ_=>[]) w:=⟨λk e z=>by simp[zE]at z,λ_ _=>rfl,λk C b n E h1 _=>by simp at h1,λk b n h1=>by simp at h1,λb hd=>by
  rcases hd with hd|⟨_,_,hd⟩
  .exact hd.elim
  .simp at hd⟩
 refine Calls.mono (h.sim (λ_=>False) w (λ_=>[]) u hl H λi v hv=> .fz _ _ (B i v hv)) ?_;rintro e w' ⟨c,β',rfl,G,hc⟩;have:c= .bool true:=hc.s_inv;subst this;exact⟨rfl,G.os,G.tape,G.output,G.size,λk hk=>G.keep k hk λ_ _ A=>by simp at A⟩
def dom0:∀b,¬xX (λ_=>False) (λ_=>[]) b:=λb hd=>by
 rcases hd with hd|⟨_,_,hd⟩
 .exact hd
 .simp at hd
def WX (w:World):List AV->List Value->Prop
 | [],[]=>True
 |a::r,c::s=>xS w (xX (λ_=>False) λ_=>[]) a c/\WX w r s
 |_,_=>False
theorem WX.len :∀{l:List AV} {s:List Value},WX w l s->ln s=ln l
 | [],[],_=>rfl
 |_::_,_::_,h=>by simp[WX.len h.2]
 | [],_::_,h=>h.elim
 |_::_,[],h=>h.elim
theorem WX.at :∀{l:List AV} {s:List Value},WX w l s->∀(i:Nat) v,l[i]? =some v->xS w (xX (λ_=>False) λ_=>[]) v (s.getD i undef)
 | [],[],_,i,v,hv=>by simp at hv
 |a::_,c::_,h,0,v,hv=>by simp at hv;subst hv;exact h.1
 |_::_,_::_,h,i+1,v,hv=>by simpa using WX.at h.2 i v La
 | [],_::_,h,_,_,_=>h.elim
 |_::_,[],h,_,_,_=>h.elim
theorem xR.lawL {P:Program} {f:Nat} {args:List AV} (h:xR P f args [] (.s (.bool true)) []) {cs:List Value} {w:World} (u:WX w args cs):Calls P f cs.toArray w λe w'=>e= .returned (.bool true)/\Below w.heap.size w w':=
 h.law (by simpa using u.len) λi v hv=>by simpa [zBe,oj]using u.at i v hv
theorem LIn.le {A:Option Addr} {c:Nat} {xs:List Int} (h:LIn k w A n c xs):ln xs<=9223372036854775807:=by grind [LIn]
end
def rem (d:Dk):Nat:=ln d.l-d.a
structure F9 (l:List Tk):Prop where
 n:l.length=8
 y:∀t∈l,BY t.sec/\t.sec.length<=8/\(t.used=true->t.sec.length=8/\ML t.rights=true/\0<=t.til/\t.til<=2147483648)
 v:TV l
theorem F9.b (h:F9 l):GD l:=⟨by have:=h.n;omega,λt u=>by have:=(h.y t u).2.1;omega⟩
