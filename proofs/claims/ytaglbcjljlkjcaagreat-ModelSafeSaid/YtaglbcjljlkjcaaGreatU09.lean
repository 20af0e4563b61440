/- Part 9. -/
import Derived.Test.YtaglbcjljlkjcaaGreatU08
import Derived.WalkKit
import Derived.ProofKit
namespace Go.Proofs.YtaglbcjljlkjcaaGreat.Av
open Tryz
set_option linter.all false
set_option maxRecDepth 4000
set_option maxHeartbeats 1000000
open List renaming length->ln,replicate->pi,range->py,getD->p5
open Inhabited renaming default->dd
variable {s t:Int}{k:IntKind}{l:List Tk}{n:Nat}{w:World}
def YB (l:List Tk):Nat->Int->List Int
 |0,_=>[]
 |n+1,s=>bif jY l s then s::YB l n (l.getD s.toNat dd).par else []
def eV (l:List Tk) (k:Nat) (a:Int):YB l (k+1) a=bif jY l a then a::YB l k (l.getD a.toNat dd).par else []:=rfl
theorem YC (h:jY l s=true):0<=s/\s<ln l:=by grind [jY]
theorem Nd :∀(n:Nat) (s x:Int),x∈YB l n s->jY l x=true
 |0,s,x,h=>by simp[YB]at h
 | n+1,s,x,h=>by
  unfold YB at h
  cases u:jY l s<;>rw[u]at h
  .simp at h
  .rw[zB7,zCh]at h
   rcases h with rfl|h
   .exact u
   .exact Nd n _ x h
def Yp (l:List Tk) (s:Int):List (Nat×xW):=[(1003,.box [iA s]),(1004,.box [zE yP l])]
def Wy (l:List Tk) (s:Int):zN 263 [zE yP l,iA s] [] (.fn 302 [.ptr 1003 0 0,.ptr 1004 0 0]) (Yp l s):=by
 refine eM call263 λF hF=>?_
 repeat' (first|(apply zG;first|refine uT (dI (v:=AV.sl _ _) 1004 Z Z) Z Z Z ?_|refine uT (dI (v:=AV.s _) 1003 Z Z) Z Z Z ?_|refine uM tok Z Z ?_|apply kQ)|(first|apply xX|apply xT|refine vZ Z ?_|refine yS Z ?_|refine yD Z ?_|refine xZ Z (λhc=>?_) λhc=>?_|apply xJ|apply xL|apply xS|apply xB))
 exact zP [1003,1004] Z Z Z Z
def Xp (l:List Tk) (s:Int):TL prog 302 [.ptr 1003 0 0,.ptr 1004 0 0] (Yp l s) ((YB l 8 s).map λx=>[iA x]):=by
 have hl:=zA yP l;refine VO func302 Z (λargs w=>call302 args w) Z Z Z (λF y I z G=>?_);unfold Yp;refine WW ?_;refine yU (8) [1003,1004] [1003,1004] [0,2] [4,6,1000000,0,2] Z (λi T U L=>∃(a:Int) (ga:List Int),(YB l 8 s=ga++YB l (8-i) a/\ga.length=i)/\L=⟨(4,iA a)::(6,iA i)::(1000000,.gh i)::T,U⟩) (Lp ?_ ?_ ?_)
 .exact⟨s,[],⟨rfl,rfl⟩,rfl⟩
 .rintro i st hi ⟨a,ga,⟨hp,hpl⟩,rfl⟩;have c:=Qc l a;obtain⟨k,hk⟩:∃k,8-i=k+1:=⟨7-i,zB⟩;rw[hk,eV l k a]at hp
  cases C:jY l a<;>rw[C]at c hp
  .rw[zCu,zBo]at hp;refine zS c ?_;exact TM Z (.inl (by rw[zAt,hp,hpl]))
  .rw[zB7]at hp;obtain⟨E,h1⟩:=YC C;have M:=yE yP l a E h1;have u:((YB l 8 s).map λx=>[iA x])[i]? =some [iA a]:=by rw[hp];simp[<-hpl]
   have B:i<((YB l 8 s).map λx=>[iA x]).length:=(zBk.1 u).1;generalize ((YB l 8 s).map λx=>[iA x])=xs at *;have A:YB l 8 s=(ga++[a])++YB l (8-(i+1)) (l.getD a.toNat dd).par:=by rw[hp,show 8-(i+1)=k by omega];simp
   generalize l.getD a.toNat dd=t at*
   (repeat' (first|refine uS ?_|apply yW|apply xH|intro hc|(apply zG;apply xP;first|(first|(refine vH 303 ?_;first|refine wM (zL (c) Z Z Z Z Z) Z ?_|refine uT (zL (c) Z Z Z Z Z) Z Z Z ?_|refine aI (zL (c) Z Z Z Z Z) Z Z Z ?_))|(apply Nf;refine FC z G Z Z u Z Z Z ?_ ?_))|(apply zG;first|refine SM ?_)|fail))
   .exact⟨t.par,ga++[a],⟨A,by simp[hpl]⟩,rfl⟩
   .exact TM Z (.inr zB)
 .rintro st ⟨a,ga,⟨hp,hpl⟩,rfl⟩;rw[show YB l (8-8) a=[]from rfl,zBo]at hp;refine WW ?_;exact ZW rfl (.inl (by rw[zAt,hp,hpl]))
def ij (l:List Tk) (s u:Int):Bool:=(YB l 8 s).any λa=>a==u
def Wp (l:List Tk) (s u:Int):zN 377 [zE yP l,iA s,iA u] [] (bA (ij l s u)) []:=by
 have c:=Wy l s;unfold Yp at c;refine eM call377 λF hF=>?_
 refine zS c ?_;refine qN hF (Xp l s) Z [5,6] [5,6] Z Z Z Z Z Z Z Z Z (λi ys h=>?_) (λ_=>[(5,.box [iA u]),(6,.box [.s (.bool false)])]) (λi=>∀x∈(YB l 8 s).take i,x≠u) (T:=[(5,.ptr 5 0 0),(6,.ptr 6 0 0)]) Z zV (λi ys y B E L h1 h2=>?_) (λE=>?_)
 .rw[zA1,zBc]at h;obtain⟨x,_,rfl⟩:=h;rfl
 .rw[zA1,zBc]at B;obtain⟨x,G,rfl⟩:=B
  show uE _ L _ _ ⟨[(11,iA x),(5,.ptr 5 0 0),(6,.ptr 6 0 0)],[(5,.box [iA u]),(6,.box [.s (.bool false)])]⟩ _
  have A:x∈YB l 8 s:=zCf G;refine WW ?_;refine⟨rfl,λM O S=>?_⟩;by_cases I:x=u
  .have hd:ij l s u=true:=zCl.2 ⟨x,A,by simpa using I⟩;rw[hd];exact mx
  ·(refine WW ?_)
   refine⟨rfl,λz C=>?_⟩;rw[zDs,G]at C;simp only[Option.toList_some,zBe,zBm]at C
   rcases C with C|rfl
   .exact E z C
   .exact I
 .rw[zAt,zAv]at E;have hd:ij l s u=false:=zDc.2 λx G=>by simpa using E x G
  rw[hd];exact mx
def ja (l:List Tk) (f4:Int) (j:Nat):Tk:=if(YB l 8 j).any (λa=>Aa (l.getD a.toNat dd) f4)=true then zb else l.getD j dd
def QZ (l:List Tk) (f4:Int) (s:Nat):List Tk:=(py (ln l)).map λj=>if j<s then ja l f4 j else l.getD j dd
def YD (l:List Tk) (f4:Int):List Tk:=(py (ln l)).map (ja l f4)
def FU (l:List Tk) (f4:Int) (s:Nat):(QZ l f4 s).length=ln l:=by simp[QZ]
theorem Vp (l:List Tk) (f4:Int):QZ l f4 0=l:=by apply zB2<;>grind [QZ,List.getElem?_range,p5,List.getElem?_eq_none]
theorem Rv (l:List Tk) (f4:Int):QZ l f4 (ln l)=YD l f4:=by grind [QZ,YD,List.map_congr_left]
theorem Up (l:List Tk) (f4:Int) (s:Nat) (h:s<ln l):(QZ l f4 s)[s]? =some (l.getD s dd):=by grind [QZ]
theorem Tp (l:List Tk) (f4:Int) (s:Nat):QZ l f4 (s+1)=(QZ l f4 s).set s (ja l f4 s):=by apply zB2<;>grind [QZ,ja,List.getElem?_range,List.getElem?_eq_none]
theorem Sp (l:List Tk) (hb:IC l) (f4:Int):zN 220 [zE yP l,iA f4] [] (zE yP (YD l f4)) []:=by
 have c:=VN l hb;have hn:=hb.n;have M:=zA yP l;refine eM call220 λF hF=>?_
 refine zS c ?_;refine zO ((l.map yP).length) [1001,2,3,5] [2,3,5] [2,3,5,11,18] [12,2,3,5,11,18] Z (λi T U=>⟨(12,iA i)::T,(1001,.arr 6 ((QZ l f4 i).map yP) false)::U⟩) ?_;(conv=>whnf);refine⟨by(rw[Vp];rfl),?_,?_⟩
 .intro i hi;have hi':i<ln l:=by omega
  have O:=Wy l i;unfold Yp at O;have hy:((QZ l f4 i).map yP)[i]? =some (yP (l.getD i dd)):=by rw[zA1,Up l f4 i hi'];rfl
  have S:=Tp l f4 i;have L:=Pc;have ag:i<((QZ l f4 i).map yP).length:=by rw[zAt,FU];exact hi'
  refine zS O ?_
  refine qN hF (Xp l i) Z [2,3,5,6,1001] [2,3,5,6,11,12] Z Z Z Z Z Z Z Z Z (λk ys h=>?_) (λ_=>[(2,.box [zE yP l]),(3,.box [iA f4]),(5,.box [.ref 1001 0 (l.map yP).length]),(6,.box [iA i]),(1001,.arr 6 ((QZ l f4 i).map yP) false)]) (λk=>∀x∈(YB l 8 i).take k,Aa (l.getD x.toNat dd) f4=false)
   (T:=[(2,.ptr 2 0 0),(3,.ptr 3 0 0),(5,.ptr 5 0 0),(6,.ptr 6 0 0),(11,iA (l.map yP).length),(12,iA i)]) Z zV (λk ys y A C W h1 h2=>?_) (λC=>?_)
  .rw[zA1,zBc]at h;obtain⟨x,_,rfl⟩:=h;rfl
  .rw[zA1,zBc]at A;obtain⟨x,V,rfl⟩:=A
   show uE _ W _ _ ⟨[(18,iA x),(2,.ptr 2 0 0),(3,.ptr 3 0 0),(5,.ptr 5 0 0),(6,.ptr 6 0 0),(11,iA (l.map yP).length),(12,iA i)],[(2,.box [zE yP l]),(3,.box [iA f4]),(5,.box [.ref 1001 0 (l.map yP).length]),(6,.box [iA i]),(1001,.arr 6 ((QZ l f4 i).map yP) false)]⟩ _
   have u:x∈YB l 8 i:=zCf V;obtain⟨Y,b2⟩:=YC (Nd _ _ _ u);have ap:=yE yP l x Y b2;have E:=IB (l.getD x.toNat dd) f4;refine WW ?_;refine⟨rfl,λF2 g1 g2=>?_⟩
   cases I:Aa (l.getD x.toNat dd) f4<;>rw[I]at E
   ·(refine zS E ?_)
    refine⟨rfl,λz B=>?_⟩;rw[zDs,V]at B;simp only[Option.toList_some,zBe,zBm]at B
    rcases B with B|rfl
    .exact C z B
    .exact I
   .have G:(QZ l f4 (i+1)).map yP=((QZ l f4 i).map yP).set i (yP zb):=by
     rw[S,ja,zAs (zCl.2 ⟨x,u,I⟩),zCe]
    generalize (QZ l f4 i).map yP=xs,(QZ l f4 (i+1)).map yP=ys at *;subst G;refine yF (xQ E L) ?_;rfl
  .rw[zAt,zAv]at C
   have G:(QZ l f4 (i+1)).map yP=(QZ l f4 i).map yP:=by
    rw[S,ja,Os (by simpa using C)]
    congr 1
    have:=Up l f4 i hi';rw[zBk]at this;obtain⟨h,e⟩:=this;rw[<-e,zGc]
   generalize (QZ l f4 i).map yP=xs,(QZ l f4 (i+1)).map yP=ys at *;subst G;refine WW ?_;rfl
 .have ac:(l.map yP).length=((QZ l f4 (ln l)).map yP).length:=by simp[FU]
  rw[<-Rv];rw[M]at *; refine WW ?_;exact zI [] Z Z (zBd (AV.sl false) (zA2 (by simp[FU]))) Z
def Af (a:Ag):List Tk:=⟨true,a.sec,-1,a.rights,a.cls,0⟩::pi 7 zb
def zT:AV:= .agg [.s (.bool false),.s (.slice none 0 0),.s (.int .i64 0),.s (.int .i64 0),.s (.int .i64 0),.s (.int .i64 0)]
def mb (i:Nat):List AV:=pi i (yP zb)++pi (8-i) zT
theorem D3 (i:Nat) (h:i<8):(mb i)[i]? =some zT:=by grind [mb,zT]
def Qv (i:Nat) (h:i<8):(mb i).set i (yP zb)=mb (i+1):=by
 unfold mb;rw[show 8-i=(8-(i+1))+1 by omega,zFk (n:=8-(i+1)),zEs _ _ zV,zCk,zDx,zFv,zE0 (n:=i),zBl];rfl
def C3 (a:Ag) (C:ln a.sec<=1000000):zN 206 [uF a] [] (zE yP (Af a)) []:=by
 have A:=Pc;have cs:=kT a.sec zB;obtain⟨N,hN⟩:∃N:Nat,N=8:=⟨8,rfl⟩;refine eM call206 λF hF=>?_
 refine WW ?_;refine zO (N) [5,1] [1] [1] [8,7,3,1] Z (λi T U=>⟨(8,iA i)::(7,iA N)::(3,.ref 5 0 N)::T,(5,.arr 6 (mb i) false)::U⟩) ?_;(conv=>whnf);refine⟨by(rw[hN];rfl),?_,?_⟩
 .intro i hi;have z:=D3 i zB;have e:=Qv i zB;have u:(mb i).length=8:=by unfold mb;simp;omega
  generalize mb i=xs,mb (i+1)=ys at *;subst e;unfold zT at z;refine zS A ?_;rfl
 .rw[show mb N=mb 8 by rw[hN]];have z:(mb 8)[0]? =some (yP zb):=rfl;have B:(mb 8).set 0 (yP ⟨true,a.sec,-1,a.rights,a.cls,0⟩)=(Af a).map yP:=rfl;have u:(mb 8).length=8:=rfl;generalize mb 8=xs at *;unfold yP at z;refine zS cs ?_;exact zI [] Z Z (zBd (AV.sl false) ((zA2 qB).trans B)) Z
def PA (n:Int) (a:Ag):Rg:=⟨n,a,Af a,[],⟨a.burst,a.rate,a.burst⟩⟩
def A3 (n:Int) (a:Ag) (u:ln a.sec<=1000000) (hl:ln a.lim<=1000000):zN 151 [iA n,uF a] [] (uQ (PA n a)) []:=by
 have z:=AH a u hl;have A:=C3 a u;have B:=Z1 a.rate a.burst;unfold PA;generalize Af a=C at *;refine eM call151 λF hF=>?_
 exact ng (qC z A B)
def YE (g s:Int) (l:List Int) (hl:ln l<=1000000) (z:0<=g) (A:g<256) (B:0<=s) (C:s<256):zN 66 [iA g,iA s,zE yA l] [] (zE yA (g::s::l)) []:=by
 have u:=zA yA l;refine eM call66 λF hF=>?_
 refine WW ?_;exact zI [] Z Z (zBd (AV.sl false) (zA2 zV)) Z
def j4 (a b:List Int):zN 341 [zE yA a,zE yA b] [] (bA (Ch a b)) []:=by
 refine eM call341 λF hF=>?_
 exact mx
def Vi (l:List Tk) (b:List Int):Tk:=l.getD (b.getD 1 dd).toNat dd
def IO (l:List Tk) (g:Int) (b:List Int) (k f4:Int):Bool:=decide ((ln b:Int)=10/\b.getD 0 dd=g)&&jY l (b.getD 1 dd)&&(Ch (b.drop 2) (Vi l b).sec&& !Aa (Vi l b) f4&&mj (Vi l b).rights k)
def Pv (l:List Tk) (g:Int) (b:List Int) (k f4:Int) (hb:BY b):zN 305 [zE yP l,iA g,zE yA b,iA k,iA f4] [] (.tup [iA (if IO l g b k f4=true then b.getD 1 dd else 0),iA (if IO l g b k f4=true then 0 else 9)]) []:=by
 have L:=zA yA b;have M:=zA yP l;by_cases h1:(ln b:Int)=10
 case neg=>
  have e:IO l g b k f4=false:=by unfold IO;rw[zAu (λh=>h1 h.1)];rfl
  rw[e];refine eM call305 λF hF=>?_
  exact mx
 have B:=yE yA b 0 zB zB;have C:=yE yA b 1 zB zB;have b0:0<=b.getD 0 dd/\b.getD 0 dd<256:=hb _ Pe;have b1:0<=b.getD 1 dd/\b.getD 1 dd<256:=hb _ Pe
 change (b.map yA)[0]? =some (yA (b.getD 0 dd))at B
 change (b.map yA)[1]? =some (yA (b.getD 1 dd))at C
 unfold IO Vi;generalize b.getD 0 dd=Y,b.getD 1 dd=z at *;by_cases h2:Y=g
 case neg=>
  rw[zAu (λh=>h2 h.2)];refine eM call305 λF hF=>?_
  exact mx
 rw[zAw ⟨h1,h2⟩];have u:=Qc l z;cases A:jY l z
 .rw[A]at u;refine eM call305 λF hF=>?_
  exact nl u
 rw[A]at u;obtain⟨V,W⟩:=YC A;have O:=yE yP l z V W;generalize l.getD z.toNat dd=t at *;have E:=j4 (b.drop 2) t.sec;have I:=IB t f4;have G:=Ih t.rights k;generalize Ch (b.drop 2) t.sec=q1,Aa t f4=S,mj t.rights k=U at *
 cases q1<;>cases S<;>cases U<;>((refine eM call305 λF hF=>?_);exact ng (cI u E I G))
def rgZ:Rg:=⟨0,⟨[],0,0,[],0,0,0,0⟩,[],[],⟨0,0,0⟩⟩
def TU (k:Int):Bool:=decide (2<=k/\k<=8)
def zg (r:Rg) (m:Ms) (f4:Int):Int:=if IO r.tk r.num m.tok m.kind f4=true then(if TU m.kind=true/\r.bk.level<=0 then 13 else 0)else 9
def Rp (r:Rg) (m:Ms) (f4:Int):Rg:=if zg r m f4=0 then(if TU m.kind=true then⟨r.num,r.ag,r.tk,r.vh,RG r.bk⟩else r)else rgZ
def Vy (r:Rg) (m:Ms) (f4:Int):Int:=if zg r m f4=0 then m.tok.getD 1 dd else 0
def o4 (r:Rg) (m:Ms) (f4:Int) (G:GW r) (E:BY m.tok) (hl:r.bk.level<=1000000):zN 268 [uQ r,zX m,iA f4] [] (.tup [uQ (Rp r m f4),iA (Vy r m f4),iA (zg r m f4)]) []:=by
 have u:=Pv r.tk r.num m.tok m.kind f4 E;have A:=cC r G;have z:=Vu r.bk zB;unfold Rp Vy zg
 cases B:IO r.tk r.num m.tok m.kind f4<;>rw[B]at u
 ·(refine eM call268 λF hF=>?_)
  exact nl u
 .generalize m.tok.getD 1 dd=C at *;cases hk:TU m.kind
  .have hk':¬(2<=m.kind/\m.kind<=8):=zE5 hk;refine eM call268 λF hF=>?_
   refine yF (xQ u A) (I2 (λhc=>?_) λhc=>?_)
   all_goals (first|exact MP|exact zH)
  .have hk':2<=m.kind/\m.kind<=8:=zEl hk;by_cases hv:r.bk.level<=0
   .rw[zAu zB]at z;simp only[hv,and_self,zE2];refine eM call268 λF hF=>?_
    exact ng (qC u A z)
   .rw[zAw zB]at z;simp only[hv,zE9,zFm,zE2];generalize hb:RG r.bk=I at *;refine eM call268 λF hF=>?_
    exact ng (qC u A z)
def Z4 (r:Rg) (f4:Int):Rg:=⟨r.num,r.ag,YD r.tk f4,r.vh,o7 r.bk⟩
def Ov (r:Rg) (f4:Int) (u:GW r) (hl: -1000000<=r.bk.level+r.bk.rate/\r.bk.level+r.bk.rate<=1000000):zN 174 [uQ r,iA f4] [] (uQ (Z4 r f4)) []:=by
 have z:=cC r u;have A:=Sp r.tk u.tk f4;have B:=Wu r.bk zB;unfold Z4;generalize YD r.tk f4=E,o7 r.bk=C at *;refine eM call174 λF hF=>?_
 exact ng (qC z A B)
def LG (l:List Tk) (hb:IC l):zN 236 [zE yP l] [] (.ref 1001 0 (l.map yP).length) [(1001,.arr 6 (l.map yP) false)]:=by
 have E:=hb.n;have z:=zA yP l;refine eM call236 λF hF=>?_
 (repeat' (first|refine uS ?_|apply yW|apply xH|intro hc|fail))
 refine zQ 3 1001 6 Z Z Z ?_;refine zU (l) [1001] [] [6,7] [3,8,6,7] Z (λi ga T U=>⟨(3,.ref 1001 0 (ga.map yP).length)::(8,iA i)::T,(1001,.arr 6 (ga.map yP) true)::U⟩) (Lq ?_ ?_)
 .intro i ga x post u hi;have I:=yJ yP u hi;have A:=zW u hi;have B:(ga.map yP).length=i:=by rw[zAt,hi]
  have G:=hb.s x (xA u);have C:=zA yA x.sec;have e:(ga++[x]).map yP=ga.map yP++[yP x]:=by simp
  clear u;rw[e];generalize ga.map yP=xs,l.map yP=L at *;refine WL ?_;rfl
 ·(repeat' (first|refine Xf ?_|apply yW|apply xH|intro hc|fail))
  refine kY [1001] [2] Z Z ?_;refine kE 1001 [2] Z Z Z Z Z (xL ?_);exact zP [1001] Z Z Z Z
def Qp (l:List Tk) (hb:IC l):zN 236 [zE yP l] [] (zE yP l) []:=by
 have E:=hb.n;have z:=zA yP l;refine eM call236 λF hF=>?_
 (repeat' (first|refine uS ?_|apply yW|apply xH|intro hc|fail))
 refine zQ 3 1001 6 Z Z Z ?_;refine zU (l) [1001] [] [6,7] [3,8,6,7] Z (λi ga T U=>⟨(3,.ref 1001 0 (ga.map yP).length)::(8,iA i)::T,(1001,.arr 6 (ga.map yP) true)::U⟩) (Lq ?_ ?_)
 .intro i ga x post u hi;have I:=yJ yP u hi;have A:=zW u hi;have B:(ga.map yP).length=i:=by rw[zAt,hi]
  have G:=hb.s x (xA u);have C:=zA yA x.sec;have e:(ga++[x]).map yP=ga.map yP++[yP x]:=by simp
  clear u;rw[e];generalize ga.map yP=xs,l.map yP=L at *;refine WL ?_;rfl
 ·(refine WL ?_)
  exact zI [] Z Z (fZ _ _) Z
def eI (r:Rg) (hb:GW r):zN 186 [uQ r] [] (uQ r) []:=by
 have c:=Qp r.tk hb.tk;have h1:=hb.s;have h2:=hb.l;have u:=hb.v;have z:=zA yA r.ag.sec;have A:=zA iA r.ag.lim;have B:=zA vC r.vh;refine eM call186 λF hF=>?_
 exact pb c
def Ui (a:Ag) (i:Nat):List AV:=yP ⟨true,a.sec,-1,a.rights,a.cls,0⟩::pi i (yP zb)
def Nv (a:Ag) (A:ln a.sec<=1000000):zN 212 [uF a] [] (zE yP (Af a)) []:=by
 have u:=zA yA a.sec;obtain⟨N,hN⟩:∃N:Nat,N=7:=⟨7,rfl⟩;refine eM call212 λF hF=>?_
 (repeat' (first|refine jZ ?_|apply yW|apply xH|intro hc|(apply zG;first|(apply yH;refine uT (nw:=[1001]) (yV tok 1001 (xs:=[.agg [.s (.bool true),.sl false (a.sec.map yA),.s (.int .i64 (-1)),.s (.int .i64 a.rights),.s (.int .i64 a.cls),.s (.int .i64 0)]]) Z Z Z Z Z Z Z Z Z) Z Z Z ?_)|refine SL ?_)|refine SB ?_|fail))
 refine vP 1001 Z ?_;refine zO (N) [1001] [] [] [3] Z (λi T U=>⟨(3,.ref 1001 0 (Ui a i).length)::T,(1001,.arr 6 (Ui a i) true)::U⟩) (Lq ?_ ?_)
 .intro i hi;have hl:(Ui a i).length=i+1:=by simp[Ui]
  have e:Ui a (i+1)=Ui a i++[yP zb]:=by unfold Ui;rw[zE0];rfl
  have hh:∀y,(Ui a i)[0]? =some y->ln y.cells=6:=λy z=>by cases z;rfl
  rw[e];generalize Ui a i=xs at*
  (repeat' (first|refine jZ ?_|apply yW|apply xH|intro hc|(apply zG;first|(apply yH;refine ZX 17 Z Z Z ?_;refine vD tok Z Z ?_))|refine SB ?_|fail))
  rfl
 .have hl:(Ui a N).length=N+1:=by simp[Ui]
  rw[show Af a=Af a from Z];have e:(Ui a N).take (Ui a N).length=(Af a).map yP:=by rw[zAv,hN];rfl
  refine WL ?_;exact zI [] Z Z (zBd (AV.sl false) e) Z
def Mv (n:Int) (a:Ag) (z:ln a.sec<=1000000) (hl:ln a.lim<=1000000):zN 157 [iA n,uF a] [] (uQ (PA n a)) []:=by
 have A:=Nv a z;have B:=Xu a.rate a.burst
 have hb:GW (PA n a):=⟨⟨by simp[PA,Af],λt u=>by
  simp only[PA,Af,zCh]at u
  rcases u with rfl|u
  .exact z
  .rw[List.eq_of_mem_replicate u];simp[zb]⟩,z,hl,by simp[PA]⟩
 have C:=eI (PA n a) hb;unfold PA at *;generalize Af a=E at *;refine eM call157 λF hF=>?_
 exact ng (qC A B C)
def aa (t:Tk):Bool:=decide ((ln t.sec:Int)=8/\0<=t.cls/\t.cls<=3/\0<=t.til/\t.til<=2147483648)
def Ar (t:Tk):Bool:=PZ t.rights&&aa t
def FV (t:Tk):zN 389 [yP t] [] (bA (Ar t)) []:=by
 have c:=XA t.rights;have hl:=zA yA t.sec;unfold Ar;generalize PZ t.rights=v at *;cases v
 .rw[zBt];refine eM call389 λF hF=>?_
  refine zS c (I2 (λhc=>?_) λhc=>?_)
  all_goals exact zH
 .rw[zA3]
  (cases hb:aa t with|false=>((refine eM call389 λF hF=>?_);((refine zS c (I5 (λhc hc hc hc=>?_) (λhc hc hc hc=>?_) (λhc hc hc=>?_) (λhc hc=>?_) λhc=>?_)));all_goals (first|exact zH|(simp only[aa,zA6]at hb;first|exact MP|exact OB)))|true=>(simp only[aa,zAz]at hb;(refine eM call389 λF hF=>?_);((refine zS c ?_));all_goals (first|exact zH|exact MP|exact OB)))
def KR (t:Tk):Bool:=decide ((ln t.sec:Int)=0/\t.par= -1/\t.rights=0/\t.cls=0/\t.til=0)
def dO (u:Bool) (t:Tk):AV:= .agg [bA u,zE yA t.sec,iA t.par,iA t.rights,iA t.cls,iA t.til]
def Pp (t:Tk):zN 390 [dO false t] [] (bA (KR t)) []:=by
 have hl:=zA yA t.sec
 (cases hb:KR t with|false=>((refine eM call390 λF hF=>?_);((refine WW (I5 (λhc hc hc hc=>?_) (λhc hc hc hc=>?_) (λhc hc hc=>?_) (λhc hc=>?_) λhc=>?_)));all_goals (first|exact zH|(simp only[KR,zA6]at hb;first|exact MP|exact OB)))|true=>(simp only[KR,zAz]at hb;(refine eM call390 λF hF=>?_);((refine WW ?_));all_goals (first|exact zH|exact MP|exact OB)))
def LH (l:List Tk) (s:Int):Bool:=if(l.getD s.toNat dd).used=true then Ar (l.getD s.toNat dd)&&ij l s 0&&(Sc (l.getD s.toNat dd).rights (l.getD (l.getD s.toNat dd).par.toNat dd).rights&&decide ((l.getD s.toNat dd).cls<=(l.getD (l.getD s.toNat dd).par.toNat dd).cls)&& !Er (l.getD s.toNat dd).til (l.getD (l.getD s.toNat dd).par.toNat dd).til)
 else KR (l.getD s.toNat dd)
def IP (t:Tk):Bool:=t.used&&decide (t.par= -1/\t.til=0)&&Ar t
def PB (l:List Tk):Bool:=decide ((ln l:Int)=8)&&(IP (l.getD 0 dd)&&(py 7).all λi=>LH l ((i:Int)+1))
theorem Y4 {i:Nat} (hi:i<7) (h:LH l ((i:Int)+1)=false):PB l=false:=by grind [LH,PB]
theorem Lv (h:ij l s 0=true) (u:s≠0):jY l (l.getD s.toNat dd).par=true:=by
 unfold ij at h;rw[eV l 7 s]at h
 cases z:jY l s<;>rw[z]at h
 .simp at h
 .rw[zB7,zGf]at h;have:(s==0)=false:=by simpa using u
  rw[this,zC7,eV l 6]at h
  grind
theorem TW (l:List Tk):zN 372 [zE yP l] [] (bA (PB l)) []:=by
 have ag:=zA yP l;by_cases h8:(ln l:Int)=8
 case neg=>
  rw[show PB l=false by unfold PB;rw[zAu h8];rfl];refine eM call372 λF hF=>?_
  exact mx
 have I:=yE yP l 0 zB zB
 change (l.map yP)[0]? =some (yP (l.getD 0 dd))at I
 cases L:IP (l.getD 0 dd)
 .rw [show PB l=false by unfold PB;rw[L];simp];have c:=FV (l.getD 0 dd);unfold IP at L;generalize l.getD 0 dd=t at *;generalize Ar t=q at *;cases B:t.used
  .rw[show yP t=dO false t by unfold yP dO;rw[B]]at *; unfold dO at *;refine eM call372 λF hF=>?_
   exact nl c
  .rw[show yP t=dO true t by unfold yP dO;rw[B]]at *; unfold dO at *;by_cases h1:t.par= -1
   .by_cases h2:t.til=0
    .rw[B,zAw ⟨h1,h2⟩,zA3,zA3]at L;subst L;refine eM call372 λF hF=>?_
     exact nl c
    ·(refine eM call372 λF hF=>?_)
     exact nl c
   ·(refine eM call372 λF hF=>?_)
    exact nl c
 have M:=FV (l.getD 0 dd);have G:=L;unfold IP at G;simp only[zA4,zAz]at G;obtain⟨⟨B,h1,h2⟩,h3⟩:=G;have A:=I;rw[h3]at M;rw[show yP (l.getD 0 dd)=dO true (l.getD 0 dd) by unfold yP dO;rw[B]]at A M;unfold dO at A M;clear I;generalize ar:l.getD 0 dd=t0 at A M h1 h2;refine eM call372 λF hF=>?_
 refine zS M ?_;refine yU (7) [] [] [0] [4,0] Z (λi T U zs=>(∀s:Nat,s<i->LH l ((s:Int)+1)=true)/\zs=⟨(4,iA ((i:Int)+1))::T,U⟩) (Lp ?_ ?_ ?_)
 .exact⟨λs hs=>absurd hs (zCp _),rfl⟩
 .rintro i st hi ⟨hp,rfl⟩
  have E:LH l ((i:Int)+1)=true->∀s:Nat,s<i+1->LH l ((s:Int)+1)=true:=λh s hs=>by
   by_cases ac:s=i
   .subst ac;exact h
   .exact hp s zB
  have z:=λh=>Y4 (l:=l) hi h
  have hy:=yE yP l ((i:Int)+1) zB zB;have C:=FV (l.getD ((i:Int)+1).toNat dd);have W:=Pp (l.getD ((i:Int)+1).toNat dd);have O:=Wp l ((i:Int)+1) 0;have V:=Lv (l:=l) (s:=(i:Int)+1);have u:LH l ((i:Int)+1)=_:=rfl
  conv at u=>rhs;unfold LH
  generalize l.getD ((i:Int)+1).toNat dd=t,LH l ((i:Int)+1)=tk at *;cases B:t.used
  .rw[show yP t=dO false t by unfold yP dO;rw[B]]at hy;rw[B,Os zV]at u;rw[<-u]at W;unfold dO at hy W;cases tk
   .rw[z Z];exact nl W
   ·(refine zS W ?_)
    exact⟨E Z,by rw[zF4];rfl⟩
  .rw[show yP t=dO true t by unfold yP dO;rw[B]]at hy C;rw[B,zAs Z]at u;unfold dO at hy C;generalize Ar t=q1 at *;generalize ap:ij l ((i:Int)+1) 0=q2 at *;cases q1
   .rw[zBt,zBt]at u;rw[z u];exact nl C
   cases q2
   .rw[zA3,zBt]at u;rw[z u];exact ng (xQ C O)
   rw[zA3,zA3]at u;obtain⟨p0,p1⟩:=YC (V Z zB);have au:=yE yP l t.par p0 p1;generalize l.getD t.par.toNat dd=p at *;have Y:=AE t.rights p.rights;have c5:=Zf t.til p.til;generalize Sc t.rights p.rights=q3,Er t.til p.til=q4 at *;cases q3
   .rw[zBt,zBt]at u;rw[z u];exact ng (qC C O Y)
   by_cases S:t.cls<=p.cls
   .rw[zAw S,zA3,zA3]at u;cases q4
    ·(refine yF (cI C O Y c5) ?_)
     exact⟨E u,by rw[zF4];rfl⟩
    .rw[z u];exact ng (cI C O Y c5)
   .rw[zAu S,zA3,zBt]at u;rw[z u];exact ng (cI C O Y c5)
 .rintro st ⟨hp,rfl⟩
  rw[show PB l=true by
   unfold PB;rw[zAw h8,L,zA3,zA3]
   exact zA7.2 λi hi=>hp i (zBj.1 hi)]
  exact mx
def YF (l:List Tk):Nat->Int->Int->Bool
 |0,_,_=>false
 |n+1,f,t=>jY l f&&(f==t||YF l n (l.getD f.toNat dd).par t)
def LI (l:List Tk) (n:Nat) (f t:Int):YF l (n+1) f t=(jY l f&&(f==t||YF l n (l.getD f.toNat dd).par t)):=rfl
theorem Np (l:List Tk) (t:Int):∀(n:Nat) (f:Int),YF l n f t=(YB l n f).any λa=>a==t
 |0,_=>rfl
 |n+1,f=>by
  rw[LI,eV];cases jY l f
  .rfl
  .rw[zB7,zGf,Np l t n,zA3]
def yg (l:List Tk) (f t:Int) (G:ln l<=1000000):zN 286 [zE yP l,iA f,iA t] [] (bA (YF l (ln l+1) f t)) []:=by
 have hl:=zA yP l;generalize C:YF l (ln l+1) f t=R;refine eM call286 λF hF=>?_
 refine WW ?_;refine yU (ln l+1) [] [] [0,2] [1,7,0,2] Z (λi T U E=>∃(a:Int),(R=YF l (ln l+1-i) a t)/\E=⟨(1,iA a)::(7,iA i)::T,U⟩) (Lp ?_ ?_ ?_)
 .exact⟨f,C.symm,rfl⟩
 .rintro i st hi ⟨a,hp,rfl⟩;obtain⟨k,hk⟩:∃k,ln l+1-i=k+1:=⟨ln l-i,zB⟩;rw[hk,LI l k a t]at hp;have hk':ln l+1-(i+1)=k:=by omega
  unfold jY at hp;by_cases A:0<=a
  .by_cases h1:a<ln l
   .have z:=yE yP l a A h1;rw[zAw ⟨A,h1⟩,zA3]at hp;generalize l.getD a.toNat dd=x at *;cases u:x.used
    .rw[u,zBt]at hp;rw[show yP x=dO false x by unfold yP dO;rw[u]]at z;unfold dO at z;rw[hp];exact mx
    .rw[u,zA3]at hp;rw[show yP x=dO true x by unfold yP dO;rw[u]]at z;unfold dO at z;by_cases B:a=t
     .rw[show(a==t)=true by simpa using B,zDf]at hp;rw[hp];exact mx
     .rw[show(a==t)=false by simpa using B,zC7]at hp;refine WW ?_;exact⟨x.par,by rw[hk'];exact hp,by rw[zF4];rfl⟩
   .rw[zAu zB]at hp;simp only[zBt]at hp;rw[hp];exact mx
  .rw[zAu zB]at hp;simp only[zBt]at hp;rw[hp];exact mx
 .rintro st ⟨a,hp,rfl⟩;rw[zDx]at hp;rw[hp];exact mx
def dH (l:List Tk) (s:Nat):Bool:=if(l.getD s dd).used=true then Ar (l.getD s dd)&&YF l (ln l+1) s 0&&(decide (s=0)||(Sc (l.getD s dd).rights (l.getD (l.getD s dd).par.toNat dd).rights&&decide ((l.getD s dd).cls<=(l.getD (l.getD s dd).par.toNat dd).cls)&& !Er (l.getD s dd).til (l.getD (l.getD s dd).par.toNat dd).til))
 else KR (l.getD s dd)
def YH (t:Tk):Bool:=t.used&&decide (t.par= -1/\t.til=0)
def aU (l:List Tk):Bool:=decide ((ln l:Int)=8)&&(YH (l.getD 0 dd)&&(py (ln l)).all λi=>dH l i)
theorem Kv {i:Nat} (hi:i<ln l) (h:dH l i=false):aU l=false:=by grind [dH,aU]
theorem Jv (h:YF l (n+1) s 0=true) (u:s≠0):jY l (l.getD s.toNat dd).par=true:=by
 rw[LI l n s 0]at h;have:(s==0)=false:=by simpa using u
 rw[this,zC7,zA4]at h
 cases n with
 |zero=>exact absurd h.2 (by simp[YF])
 |succ n=>
  grind [YF,jY]
theorem RS (l:List Tk):zN 363 [zE yP l] [] (bA (aU l)) []:=by
 have ap:=zA yP l;by_cases h8:(ln l:Int)=8
 case neg=>
  rw[show aU l=false by unfold aU;rw[zAu h8];rfl];refine eM call363 λF hF=>?_
  exact mx
 have S:=yE yP l 0 zB zB
 change (l.map yP)[0]? =some (yP (l.getD 0 dd))at S
 cases M:YH (l.getD 0 dd)
 .rw [show aU l=false by unfold aU;rw[M];simp];unfold YH at M;generalize l.getD 0 dd=t at *;cases G:t.used
  .rw[show yP t=dO false t by unfold yP dO;rw[G]]at *; unfold dO at *;refine eM call363 λF hF=>?_
   exact mx
  .rw[show yP t=dO true t by unfold yP dO;rw[G]]at *; unfold dO at *;rw[G,zA3]at M;by_cases h1:t.par= -1
   .by_cases h2:t.til=0
    .rw[zAw ⟨h1,h2⟩]at M;cases M
    ·(refine eM call363 λF hF=>?_)
     exact mx
   ·(refine eM call363 λF hF=>?_)
    exact mx
 have O:=M;unfold YH at O;simp only[zA4,zAz]at O;obtain⟨G,h1,h2⟩:=O;have A:=S;rw[show yP (l.getD 0 dd)=dO true (l.getD 0 dd) by unfold yP dO;rw[G]]at A;unfold dO at A;clear S;generalize av:l.getD 0 dd=t0 at A h1 h2;refine eM call363 λF hF=>?_
 refine WW ?_;clear A;refine yU (ln l) [] [] [0,30,31] [32,0,30,31] Z (λi T U zs=>(∀s:Nat,s<i->dH l s=true)/\zs=⟨(32,iA i)::T,U⟩) (Lp ?_ ?_ ?_)
 .exact⟨λs hs=>absurd hs (zCp _),rfl⟩
 .rintro i st hi ⟨hp,rfl⟩
  have E:dH l i=true->∀s:Nat,s<i+1->dH l s=true:=λh s hs=>by
   by_cases ag:s=i
   .subst ag;exact h
   .exact hp s zB
  have z:=λh=>Kv (l:=l) hi h
  have hy:=zJ yP l i hi;have I:=XB (l.getD i dd).rights;have L:=yg l i 0 zB;have B:=Jv (l:=l) (n:=ln l) (s:=i);rw[zBh]at B;have u:dH l i=_:=rfl
  conv at u=>rhs;unfold dH
  generalize l.getD i dd=t,dH l i=tk at *;have au:=zA yA t.sec;cases G:t.used
  .rw[show yP t=dO false t by unfold yP dO;rw[G]]at hy;rw[G,Os zV]at u;unfold dO at hy;cases tk
   .rw[z Z];refine WW (I6 (λhc=>?_) (λhc hc=>?_) (λhc hc hc=>?_) (λhc hc hc hc=>?_) (λhc hc hc hc hc=>?_) (λhc hc hc hc hc=>?_))
    all_goals (first|exact zH|(exfalso;simp only[KR]at u;have:=zE5 u.symm;omega))
   .have hq:=u.symm;simp only[KR,zAz]at hq;refine WW ?_
    all_goals (first|exact⟨E Z,rfl⟩|exact MP)
  .rw[show yP t=dO true t by unfold yP dO;rw[G]]at hy;rw[G,zAs Z]at u;unfold dO at hy;unfold Ar at u;generalize PZ t.rights=q0 at *;generalize ar:YF l (ln l+1) i 0=q2 at *;cases q0
   .simp only[zBt]at u;rw[z u];refine zS I (I2 (λhc=>?_) λhc=>?_)
    all_goals exact zH
   cases C:aa t
   .rw[C]at u;simp only[zCs,zBt]at u;rw[z u]
    (have gd:=I;have gn:=L;(repeat' (first|refine uS ?_|apply yW|apply xH|intro hc|(apply zG;first|refine SM ?_)|fail))<;>clear gd gn)
    all_goals (first|exact zH|(exfalso;simp only[aa,zA6]at C;omega))
   have ac:=C;simp only[aa,zAz]at ac;rw[C]at u;cases q2
   .simp only[zA3,zBt]at u;rw[z u];exact ng (xQ I L)
   by_cases W:i=0
   .rw[zAw W]at u;simp only[zA3,zDf]at u;refine yF (xQ I L) ?_;exact⟨E u,rfl⟩
   rw[zAu W]at u;simp only[zA3,zC7]at u;obtain⟨p0,p1⟩:=YC (B Z zB);have ax:=yE yP l t.par p0 p1;generalize l.getD t.par.toNat dd=p at *;have Y:=JZ t.rights p.rights;have c5:=AF t.til p.til;generalize Sc t.rights p.rights=q3,Er t.til p.til=q4 at *;clear B C;cases q3
   .rw[zBt,zBt]at u;rw[z u];exact ng (qC I L Y)
   by_cases V:t.cls<=p.cls
   .rw[zAw V,zA3,zA3]at u;cases q4
    ·(refine yF (cI I L Y c5) ?_)
     exact⟨E u,rfl⟩
    .rw[z u];exact ng (cI I L Y c5)
   .rw[zAu V,zA3,zBt]at u;rw[z u];exact ng (cI I L Y c5)
 .rintro st ⟨hp,rfl⟩
  rw[show aU l=true by
   unfold aU;rw[zAw h8,M,zA3,zA3]
   exact zA7.2 λi hi=>hp i (zBj.1 hi)]
  exact mx
def xg (l:List Tk) (s:Int) (C:ln l=8):zN 237 [zE yP l,iA s] [] (iA (kO (λi=>YF l (ln l+1) i s) 8)) []:=by
 have hl:=zA yP l;generalize B:(λi:Nat=>YF l (ln l+1) i s)=p;refine eM call237 λF hF=>?_
 refine WW ?_;refine zO ((l.map yP).length) [] [] [0,1,8] [5,9,0,1,8] Z (λi T U=>⟨(5,iA (kO p i))::(9,iA i)::T,U⟩) (Lq ?_ ?_)
 .intro i hi;have hi':i<8:=by omega
  have c:=yg l i s zB;have hb:=ZY p i zB;have A:=AO i zB;rw[show YF l (ln l+1) i s=p i by rw[<-B]]at c
  have e:kO p (i+1)=if p i=true then kO p i+p2 i else kO p i:=rfl
  rw[e];generalize kO p i=b at *;cases u:p i
  .rw[u]at c;simp only[zFr,zFm];refine zS c ?_;rfl
  .rw[u]at c;simp only[zE2];refine zS c ?_;rfl
 .have z:(l.map yP).length=8:=by omega
  rw[z];exact mx
def RT (p:Nat->Bool) (l:List Tk) (n:Nat):List Tk:=(py (ln l)).map λj=>if j<n/\p j=true then zb else l.getD j dd
theorem FW (p:Nat->Bool) (l:List Tk) (n:Nat):(RT p l n).length=ln l:=by simp[RT]
theorem Mp (p:Nat->Bool) (l:List Tk):RT p l 0=l:=by apply zB2<;>grind [RT,List.getElem?_range,p5,List.getElem?_eq_none]
theorem W4 (p:Nat->Bool) (l:List Tk) (n:Nat) (h:n<ln l):(RT p l n)[n]? =some (l.getD n dd):=by grind [RT]
theorem Kp (p:Nat->Bool) (l:List Tk) (n:Nat):RT p l (n+1)=if p n=true then(RT p l n).set n zb else RT p l n:=by apply zB2<;>grind [RT,zb,List.getElem?_range,List.getElem?_eq_none,Bool.false_eq_true,FW]
def wg (l:List Tk) (hb:IC l) (p:Nat->Bool) (O:ln l=8):zN 238 [zE yP l,iA (kO p 8)] [] (zE yP (RT p l 8)) []:=by
 have c:=LG l hb;have L:=zA yP l;have I:=ZY p 8 zB;have B:=Jf p;generalize kO p 8=b at *;refine eM call238 λF hF=>?_
 refine zS c ?_;refine zO ((l.map yP).length) [1001] [] [1,5,10] [11,1,5,10] Z (λi T U=>⟨(11,iA i)::T,(1001,.arr 6 ((RT p l i).map yP) false)::U⟩) ?_;(conv=>whnf);refine⟨by(rw[Mp];rfl),?_,?_⟩
 .intro i hi;have hi':i<ln l:=by omega
  have S:((RT p l i).map yP)[i]? =some (yP (l.getD i dd)):=by rw[zA1,W4 p l i hi'];rfl
  have z:=Kp p l i;have u:=B i zB;have M:i<((RT p l i).map yP).length:=by rw[zAt,FW];exact hi'
  cases C:p i
  .rw[C]at u z;simp only[zFr,zFm]at z;rw[z];have A:kX (vQ b i) 1≠1:=by simpa using u
   generalize (RT p l i).map yP=xs at *;refine WW ?_;rfl
  .rw[C]at u z;simp only[zE2]at z;have A:kX (vQ b i) 1=1:=by simpa using u
   have E:(RT p l (i+1)).map yP=((RT p l i).map yP).set i (yP zb):=by rw[z,zCe]
   generalize (RT p l i).map yP=xs,(RT p l (i+1)).map yP=ys at *;subst E
   (repeat' (first|refine WTR ?_|apply yW|apply xH|intro hc|(apply zG;first|(apply dX;refine ZX 22 Z Z Z ?_;refine Pn tok Z Z Z WA Z Z Z Z Z Z ?_))|refine SB ?_|fail))
   rfl
 .have G:(l.map yP).length=8:=by omega
  rw[G];refine WW ?_;exact zI [] Z Z (zBd (AV.sl false) (zA2 (by simp[FW];omega))) Z
theorem Jp:∀(n:Nat) (f:Nat->Nat),(∀i,i<=n->f i<n)->∃i j,i<j/\j<=n/\f i=f j
 |0,f,h=>absurd (h 0 (zAy _)) (zCp _)
 | n+1,f,h=>by
  by_cases u:∃i,i<=n/\f i=f (n+1)
  .obtain⟨i,h1,h2⟩:=u;exact⟨i,n+1,zB,zAy _,h2⟩
  .obtain⟨i,j,h1,h2,z⟩:=Jp n (λi=>if f i<f (n+1)then f i else f i-1) λi hi=>by
    have A:=h i zB;have B:=h (n+1) (zAy _);have C:f i≠f (n+1):=λe=>u ⟨i,hi,e⟩
    split<;>omega
   refine⟨i,j,h1,zB,?_⟩;have A:f i≠f (n+1):=λe=>u ⟨i,zB,e⟩
   have B:f j≠f (n+1):=λe=>u ⟨j,h2,e⟩
   split at z<;>split at z<;>omega
def par (l:List Tk) (s:Int):Int:=(l.getD s.toNat dd).par
def oa (l:List Tk) (s:Int):Nat->Int
 |0=>s
 |k+1=>par l (oa l s k)
theorem YI (l:List Tk) (s:Int):∀k,oa l s (k+1)=oa l (par l s) k
 |0=>rfl
 |k+1=>by rw[oa,YI l s k];rfl
theorem FX (l:List Tk) (s:Int) (i:Nat):∀k,oa l s (i+k)=oa l (oa l s i) k
 |0=>rfl
 |k+1=>by rw[<-zFz,oa,FX l s i k];rfl
theorem XJ (l:List Tk) (t:Int):∀(n:Nat) (s:Int),t∈YB l n s↔∃k,k<n/\(∀j,j<=k->jY l (oa l s j)=true)/\oa l s k=t
 |0,s=>by simp[YB]
 | n +1,s=>by
  rw[eV];constructor
  .intro h;cases u:jY l s
   .rw[u]at h;simp at h
   .rw[u,zB7,zCh]at h
    rcases h with rfl|h
    .exact⟨0,zB,λj hj=>by rw[Nat.le_zero.1 hj];exact u,rfl⟩
    .obtain⟨k,h1,h2,z⟩:=(XJ l t n _).1 h;refine⟨k+1,zB,λj hj=>?_,by rw[YI];exact z⟩
     cases j with
     |zero=>exact u
     |succ j=>rw[YI];exact h2 j zB
  .rintro⟨k,h1,h2,z⟩;have u:=h2 0 (zBb _)
   change jY l s=true at u
   rw[u,zB7,zCh]
   cases k with
   |zero=>exact .inl z.symm
   |succ k=>
    rw[YI]at z;refine .inr ((XJ l t n _).2 ⟨k,zB,λj hj=>?_,z⟩);have:=h2 (j+1) zB;rw[YI]at this;exact this
theorem Ip (I:ln l=8) (s t:Int) (n:Nat) (h:t∈YB l n s):t∈YB l 8 s:=by
 obtain⟨k,_,h2,u⟩:=(XJ l t n s).1 h;clear h
 suffices ∀m k,k<=m->(∀j,j<=k->jY l (oa l s j)=true)->oa l s k=t->t∈YB l 8 s from this k k (zAy _) h2 u
 intro m
 induction m with
 |zero=>intro k hk h2 u;exact(XJ l t 8 s).2 ⟨k,zB,h2,u⟩
 | succ m z=>
  intro k hk h2 u;by_cases h:k<8
  .grind [YB,XJ]
  obtain⟨i,j,C,E,G⟩:=Jp 8 (λi=>(oa l s i).toNat) λi hi=>by
   have:=YC (h2 i zB);omega
  have e1:=YC (h2 i zB);have A:=YC (h2 j zB);have e3:oa l s i=oa l s j:=by omega
  have B:∀r,oa l s (i+r)=oa l s (j+r):=λr=>by rw[FX,FX,e3]
  refine z (i+(k-j)) zB (λr L=>h2 r zB) ?_
  grind
theorem Hp (l:List Tk) {m:Nat} (u:n<=m) (h:t∈YB l n s):t∈YB l m s:=by grind [YB,XJ]
inductive vg (l:List Tk):Int->Int->Prop
 |base (s:Int):jY l s=true->vg l s s
 |step (s t:Int):jY l s=true->vg l (par l s) t->vg l s t
theorem FY (l:List Tk) (t:Int):∀(n:Nat) (s:Int),t∈YB l n s->vg l s t
 |0,s,h=>by simp[YB]at h
 | n+1,s,h=>by
  rw[eV]at h;cases u:jY l s
  .rw[u]at h;simp at h
  .rw[u,zB7,zCh]at h
   rcases h with rfl|h
   .exact .base _ u
   .exact .step _ _ u (FY l t n _ h)
theorem FZ (h:vg l s t):∃n,t∈YB l n s:=by
 induction h with
 |base s u=>exact⟨1,by rw[eV,u,zB7];exact List.mem_cons_self⟩
 |step s t u _ A=>
  obtain⟨n,z⟩:=A;exact⟨n+1,by rw[eV,u,zB7];exact List.mem_cons_of_mem _ z⟩
theorem RU (u:ln l=8) (s t:Int):YF l 9 s t=true↔vg l s t:=by
 rw[Np,zCl];constructor
 .grind [YF,FY]
 .intro h;obtain⟨n,z⟩:=FZ h;exact⟨t,Hp l zB (Ip u s t n z),by simp⟩
theorem V4 (u:ln l=8) (s t:Int):ij l s t=true↔vg l s t:=by grind [ij,List.any_eq_true,FY,FZ,Ip]
theorem Uy (u:ln l=8) (s t:Int):ij l s t=YF l 9 s t:=by
 rw[zFb,V4 u,RU u]
theorem ug (l:List Tk):PB l=aU l:=by
 unfold PB aU;by_cases z:ln l=8
 case neg=>rw[zAu zB];rfl
 rw[zAw zB,zA3,zA3,z,zFb];simp only[zA4,zA7,zBj]
 have A:∀i:Nat,i<7->(LH l ((i:Int)+1)=dH l (i+1)):=λi hi=>by
  unfold LH dH;rw[Uy z,z,show(((i+1:Nat):Int)=(i:Int)+1) by omega,show((i:Int)+1).toNat=i+1 by omega,zAu (by omega:¬i+1=0),zC7]
 constructor
 .rintro⟨h1,h2⟩;unfold IP at h1;simp only[zA4,zAz]at h1;obtain⟨⟨u,p,q⟩,r⟩:=h1;refine⟨by unfold YH;rw[u,p,q];rfl,λi hi=>?_⟩
  cases i with
  |zero=>
   grind [PB,aU,dH,YF,RU,jY]
  |succ i=>rw[<-A i zB];exact h2 i zB
 .rintro⟨h1,h2⟩;have B:=h2 0 zB
  grind [PB,aU,YH,dH,IP]
structure TV (l:List Tk):Prop where
 n:l.length=8
 u:(l.getD 0 default).used=true
 p:(l.getD 0 default).par= -1
 e:(l.getD 0 default).til=0
 f:∀i,i<8->(l.getD i default).used=false->KR (l.getD i default)=true
 s:∀i,i<8->(l.getD i default).used=true->Ar (l.getD i default)=true/\vg l i 0/\(i≠0->Sc (l.getD i default).rights (l.getD (l.getD i default).par.toNat default).rights=true/\(l.getD i default).cls<=(l.getD (l.getD i default).par.toNat default).cls/\Er (l.getD i default).til (l.getD (l.getD i default).par.toNat default).til=false)
theorem U4 (l:List Tk):aU l=true↔TV l:=by
 unfold aU;simp only[zA4,zAz,zA7,zBj];constructor
 .rintro⟨z,h1,h2⟩;have z:ln l=8:=by omega
  unfold YH at h1;simp only[zA4,zAz]at h1;refine⟨z,h1.1,h1.2.1,h1.2.2,λi hi A=>?_,λi hi A=>?_⟩
  .grind [aU,dH]
  .have:=h2 i zB;unfold dH at this;rw[zAs A,z]at this;simp only[zA4,zC5,zAz,zDb]at this
   grind [aU,RU]
 .rintro⟨z,u,p,e,f,s⟩;refine⟨zB,by unfold YH;rw[u,p,e];rfl,λi hi=>?_⟩;unfold dH;cases A:(l.getD i dd).used
  .grind
  .rw[zAs Z,z];obtain⟨a,b,c⟩:=s i zB A;simp only[zA4,zC5,zAz,zDb]
   grind [aU,RU]
theorem Iv (l:List Tk) (s:Int):jY l s=true↔∃i:Nat,s=i/\i<ln l/\(l.getD i dd).used=true:=by grind [jY]
theorem vg.us (h:vg l s t):jY l s=true:=by
 cases h<;>assumption
theorem vg.trans {u:Int} (h:vg l s t) (g:vg l t u):vg l s u:=by
 induction h with
 |base _ _=>exact g
 |step s t z _ A=>exact .step _ _ z (A g)
theorem T4 (u:ln l=8) (f4:Int):YD l f4=RT (λj=>(py 8).any λi=>jY l i&&Aa (l.getD i dd) f4&&YF l 9 j i) l 8:=by
 unfold YD RT;rw[u];apply List.map_congr_left;intro j hj;rw[zBj]at hj;unfold ja
 have:((YB l 8 j).any λa=>Aa (l.getD a.toNat dd) f4)=((py 8).any λi=>jY l i&&Aa (l.getD i dd) f4&&YF l 9 j i):=by
  rw[zFb,zCl,zCl];constructor
  .rintro⟨a,h1,h2⟩;have z:=Nd _ _ _ h1
   grind [YD,RT,jY,Aa,YF,Iv,Int.toNat_natCast,RU,FY]
  .rintro⟨i,_,h2⟩;simp only[zA4]at h2
   grind [YD,RT,jY,Aa,YF,FZ,RU,Ip,Int.toNat_natCast]
 grind
def uG (n a b:Int):Bool:=decide (a<=n/\n<=b)
def fT (n a b:Int):zN 148 [iA n,iA a,iA b] [] (bA (uG n a b)) []:=by
 (cases hb:uG n a b with|false=>((refine eM call148 λF hF=>?_);((refine WW (I2 (λhc=>?_) λhc=>?_)));all_goals (first|exact zH|(simp only[uG,zA6]at hb;first|exact MP|exact OB)))|true=>(simp only[uG,zAz]at hb;(refine eM call148 λF hF=>?_);((refine WW ?_));all_goals (first|exact zH|exact MP|exact OB)))
structure Ty (a:Ag):Prop where
 s:(a.sec.length:Int)=8
 l:(a.lim.length:Int)=4
 li:∀n∈a.lim,0<=n/\n<=8
 r:0<=a.rights/\a.rights<=63
 c:0<=a.cls/\a.cls<=3
 q:0<=a.req/\a.req<=4
 e:1<=a.ses/\a.ses<=2
 b:0<=a.burst/\a.burst<=1000
 t:0<=a.rate/\a.rate<=a.burst
def a0:Ag:=⟨cL 1,1,0,[1,1,1,1],0,1,0,2⟩
theorem fA (n:Int):(cL n).length=8:=by simp[cL]
def Hv (n:Int):0<=IntKind.u8.wrap n/\IntKind.u8.wrap n<256:=by
 have:IntKind.u8.wrap n=n % 256:=rfl;omega
theorem OI (n:Int):BY (cL n):=λx u=>by
 unfold cL at u;rw[zCb]at u;obtain⟨i,_,rfl⟩:=u;exact Hv _
theorem Gp {g:Int} {l:List Int} (z:0<=g/\g<256) (A:0<=s/\s<256) (hl:BY l):BY (g::s::l):=λx u=>by
 simp only[zCh]at u
 rcases u with rfl|rfl|u
 .exact z
 .exact A
 .exact hl x u
theorem O7 (n:Int) (a:Ag) (h:Ty a):GW (PA n a):=by
 have h1:=h.s;have h2:=h.l;refine⟨⟨by simp[PA,Af],λt u=>?_⟩,by unfold PA;dsimp only;omega,by unfold PA;dsimp only;omega,by simp[PA]⟩
 grind [PA,Af,zb]
section
open Go.RowKit
def LIn (k:IntKind) (w:World) (A:Option Addr) (n c:Nat) (xs:List Int):Prop:=
 (ln xs)=n/\n<=c/\c<=9223372036854775807/\(0<n->∃b o,A=some ⟨b,o,none⟩/\b<w.heap.size/\∀j,j<n->w.cell? ⟨b,o+j,none⟩=some (.int k (xs.getD j 0)))
theorem LIn.of_row {a:Option Addr} {len cap:Nat} {z:List Int}
 (h:(a=none/\len=0/\cap=0/\z=[])\/∃x,a=some x/\len<=cap/\cap<=maxLen/\z.length=cap/\(∀i,i<ln z->w.cell? (x.add i)=some (.int k (z.getD i 0)))/\∀n∈z,(Lit.int k n).wf=true):
  LIn k w a len cap (z.take len):=by
 rcases h with⟨rfl,rfl,rfl,rfl⟩|⟨x,rfl,h1,h2,G,C,_⟩
 .grind [LIn]
 .refine⟨by simp;omega,h1,by unfold maxLen at h2;omega,λI=>?_⟩;obtain⟨b,off,A⟩:=x;have hc:=C 0 zB;have u:A=none:=by simpa [Addr.add]using World.cell?_spot hc
  subst u;have B:w.cell? ⟨b,off,none⟩=some (.int k (z.getD 0 0)):=by simpa [Addr.add]using hc
  refine⟨b,off,rfl,World.block_lt_of_cell? w _ B,λj hj=>?_⟩;have E:=C j zB
  have e:(⟨b,off,none⟩:Addr).add j=⟨b,off+j,none⟩:=by unfold Addr.add;split<;>simp_all
  grind
theorem LIn.repf {A:Option Addr} {c:Nat} {xs:List Int} (h:LIn k w A n c xs) {D:Nat->Prop} (E:∀b,¬D b):xM w D (.sl false (xs.map λn=> .s (.int k n))) (.slice A n c):=by
 obtain⟨rfl,h2,I,C⟩:=h
 cases B:xs with
 |nil=>exact .nil A c
 | cons x r=>
  rw[<-B];obtain⟨b,o,rfl,hb,hc⟩:=C (by rw[B];simp)
  have:=xM.sl (w:=w) (D:=D) false (xs.map λn=>AV.s (.int k n)) b o 1 c (λi _=> .int k (xs.getD i 0)) (by rw[B];simp)
   ⟨hb,E b,zAy _,by simp[dY];omega,λi y u=>by
    rw[zA1,zBc]at u;obtain⟨z,_,rfl⟩:=u
    rfl,λi j hi hj=>by
    obtain rfl:j=0:=by omega
    rw[Nat.mul_one,zDi]
    exact hc i DX,λ_ _ _ _=>rfl⟩ CA (λi y j v u hv=>by
    rw[zA1,zBc]at u;obtain⟨z,G,rfl⟩:=u
    cases j with
    |zero=>
     simp[AV.cells]at hv;subst hv;have:xs.getD i 0=z:=by simp[p5,G]
     rw[this];exact .s _
    |succ j=>simp[AV.cells]at hv)
  simpa using this
theorem xO.law {P:Program} {f:Nat} {args:List AV} (h:xO P f args [] (.s (.bool true)) []) {u:Array Value} {w:World} (hl:u.size=ln args)
  (B:∀(i:Nat) v,args[i]? =some v->xM w (xU (λ_=>False) λ_=>[]) v (u.getD i undef)):Calls P f u w λe w'=>e= .returned (.bool true)/\Below w.heap.size w w':=by
 have H:jM (λ_=>False) (zD []) (λ_=>[]) w:=⟨λk e z=>by simp[zD]at z,λ_ _=>rfl,λk C b n E h1 _=>by simp at h1,λk b n h1=>by simp at h1,λb hd=>by
  rcases hd with hd|⟨_,_,hd⟩
  .exact hd.elim
  .simp at hd⟩
 refine Calls.mono (h.sim (λ_=>False) w (λ_=>[]) u hl H λi v hv=> .fz _ _ (B i v hv)) ?_;rintro e w' ⟨c,β',rfl,G,hc⟩;have:c= .bool true:=hc.s_inv;subst this;exact⟨rfl,G.os,G.tape,G.output,G.size,λk hk=>G.keep k hk λ_ _ A=>by simp at A⟩
def dom0:∀b,¬xU (λ_=>False) (λ_=>[]) b:=λb hd=>by
 rcases hd with hd|⟨_,_,hd⟩
 .exact hd
 .simp at hd
def YJ (w:World):List AV->List Value->Prop
 | [],[]=>True
 |a::r,c::s=>xM w (xU (λ_=>False) λ_=>[]) a c/\YJ w r s
 |_,_=>False
theorem YJ.len :∀{l:List AV} {s:List Value},YJ w l s->ln s=ln l
 | [],[],_=>rfl
 |_::_,_::_,h=>by simp[YJ.len h.2]
 | [],_::_,h=>h.elim
 |_::_,[],h=>h.elim
theorem YJ.at :∀{l:List AV} {s:List Value},YJ w l s->∀(i:Nat) v,l[i]? =some v->xM w (xU (λ_=>False) λ_=>[]) v (s.getD i undef)
 | [],[],_,i,v,hv=>by simp at hv
 |a::_,c::_,h,0,v,hv=>by simp at hv;subst hv;exact h.1
 |_::_,_::_,h,i+1,v,hv=>by simpa using YJ.at h.2 i v DY
 | [],_::_,h,_,_,_=>h.elim
 |_::_,[],h,_,_,_=>h.elim
theorem xO.lawL {P:Program} {f:Nat} {args:List AV} (h:xO P f args [] (.s (.bool true)) []) {cs:List Value} {w:World} (u:YJ w args cs):Calls P f cs.toArray w λe w'=>e= .returned (.bool true)/\Below w.heap.size w w':=
 h.law (by simpa using u.len) λi v hv=>by simpa [zBu,p5]using u.at i v hv
theorem LIn.le {A:Option Addr} {c:Nat} {xs:List Int} (h:LIn k w A n c xs):ln xs<=9223372036854775807:=by grind [LIn]
end
def rem (d:Dk):Nat:=ln d.l-d.a
theorem vF (d:Dk):rem (ad d)<=rem d:=by unfold ad;split;(unfold rem;dsimp only;omega);exact zAy _
def S4 (d:Dk) (h:d.a<ln d.l):rem (ad d)+1<=rem d:=by unfold ad;rw[zF3 h];unfold rem;dsimp only;omega
def N7 (l:List Int) (hl:ln l<=9223372036854775807):zN 25 [zE iA l] [] (bA (decide (ln l<=300))) []:=by
 have u:=zA iA l;by_cases h:ln l<=300
 .rw[zAw h];refine eM call25 λF hF=>?_
  exact mx
 .rw[zAu h];refine eM call25 λF hF=>?_
  exact mx
def Md (d:Dk):zN 26 [.ptr 1000 0 0] [(1000,fF d)] (bA (decide (d.a<ln d.l))) [(1000,fF d)]:=by
 have hl:(d.l.map iA).length=ln d.l:=by simp
 refine eM call26 λF hF=>?_
 (repeat' (first|refine aP ?_|refine yW (λhc=>?_) λhc=>?_|fail))
 refine zP [1000] Z Z (zBd bA ?_) Z;simp[uB]
structure TkP (l:List Tk):Prop where
 n:l.length=8
 y:∀t∈l,BY t.sec/\t.sec.length<=8/\(t.used=true->t.sec.length=8/\PZ t.rights=true/\0<=t.til/\t.til<=2147483648)
 v:TV l
theorem TkP.b (h:TkP l):IC l:=⟨by have:=h.n;omega,λt u=>by have:=(h.y t u).2.1;omega⟩
