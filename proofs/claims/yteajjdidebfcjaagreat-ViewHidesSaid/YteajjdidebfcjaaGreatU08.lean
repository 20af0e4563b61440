/- Part 8. -/
import Derived.Test.YteajjdidebfcjaaGreatU07
namespace Go.Proofs.YteajjdidebfcjaaGreat
namespace Av
open Tryz
set_option linter.all false
set_option maxRecDepth 4000
set_option maxHeartbeats 2000000
def EL:Nat->Int->List Int
 |0,n=>[n]
 |f+1,n=>if n<128 then [n]else(n % 128+128)::EL f (n/128)
def qQ (n:Int):List Int:=EL 4 n
def zAr {n:Int} {z:Nat} (h:n<128 ^ (z+1+1)):n/128<128 ^ (z+1):=Int.ediv_lt_of_lt_mul xL (by rw[yFr]at h;exact h)
def WR {f:Nat} {n:Int} (h:n<128):EL f n=[n]:=by
 cases f with
 |zero=>rfl
 |succ f=>exact yAd h
def OV {f:Nat} {n:Int} (h:128<=n):EL (f+1) n=(n % 128+128)::EL f (n/128):=yAc zB
def zXc (n:Int) (h0:0<=n) (h1:n<=4294967295):zN 136 [iA n] [] (.tup [zC yA (qQ n),iA 0]) []:=by
 have cs:=EU n
 have hsz:1<=szF n:=by
  rw[zIo h0 h1];unfold lgF
  repeat' split
  all_goals omega
 generalize szF n=s at *;generalize hR:qQ n=R;refine eM call136 λF hF=>?_
 refine zV cs ?_;refine xC 4 1001 1 Z Z Z ?_;refine jZ (4) [1001] [] [] [0,4] Z (λzn T U zs=>∃(m:Int) (acc:List Int),(0<=m/\m<=4294967295/\m<128 ^ (zn+1)/\acc.length+zn=4/\acc++EL zn m=R)/\zs=⟨(0,iA m)::(4,.ref 1001 0 (acc.map yA).length)::T,(1001,.arr 1 (acc.map yA) true)::U⟩) ?_;(conv=>whnf);refine⟨?_,?_⟩
 ·exact⟨n,[],⟨h0,h1,by show n<34359738368;omega,rfl,hR⟩,rfl⟩
 ·rintro zn st ⟨m,acc,⟨q0,q1,q2,q3,q4⟩,rfl⟩;have hla:=zA yA acc;by_cases hm:128<=m
  ·obtain⟨z,rfl⟩:∃z,zn=z+1:=by
    cases zn with
    |zero=>exfalso;have:m<128:=q2;omega
    |succ z=>exact⟨z,rfl⟩
   rw[OV hm]at q4;have hd:=zAr q2;have ht:m.tmod 128=m % 128:=yBz q0;have hmd:m.tdiv 128=m/128:=yB6 q0;have hir:ZM .i64 (m.tdiv 128):=⟨zB,zB⟩;clear q2;refine WW ?_;refine⟨z,zB,m.tdiv 128,acc++[m.tmod 128+128],⟨zB,zB,by rw[hmd];exact hd,by simp;omega,by rw[hmd,ht,yA6];exact q4⟩,?_⟩;rw[yAn];rfl
  ·rw[WR zB]at q4;clear q2;subst q4;refine WW ?_;refine zH [] Z Z ?_ Z
   show AV.tup [AV.sl false ((acc.map yA++[yA m]).take (acc.map yA++[yA m]).length),iA 0]=_
   rw[yAh];unfold zC;rw[yAn];rfl
def zO4 {n:Int} (h0:0<=n) (h1:n<=4294967295):gR n 127=n % 128:=by
 obtain⟨a,rfl⟩:=yCa h0;unfold gR;rw[show BitVec.ofInt IntKind.i64.bits (a:Int)=BitVec.ofNat IntKind.i64.bits a from yDy ..];rw[show BitVec.ofInt IntKind.i64.bits (127:Int)=BitVec.ofNat IntKind.i64.bits 127 from Z];rw[BitVec.toNat_and,yDv,yDv,yC6 (show a<2 ^ IntKind.i64.bits by show a<18446744073709551616;omega),yC6 (show 127<2 ^ IntKind.i64.bits by decide)];have e:a &&& 127=a % 128:=Nat.and_two_pow_sub_one_eq_mod a 7;rw[e];exact kG (k:= .i64) (by unfold ZM;omega)
def zXd:∀k:_root_.Fin 128,IntKind.u8.wrap (BitVec.ofInt IntKind.u8.bits (k.val:Int) ||| BitVec.ofInt IntKind.u8.bits 128).toNat=(k.val:Int)+128:=by decide +kernel
section
variable {P:Program} {tm:List (Nat×AV)} {h:List (Nat×xO)} {tx ty:Nat} {x y:Operand}
def zO5 {m:Int} (hx:yO (zG tm) x= .s (.int .u8 m)) (hy:yO (zG tm) y= .s (.int .u8 128)) (h0:0<=m/\m<128):wS P ⟨tm,h⟩ (.binOp .or tx x y ty) (.s (.int .u8 (m+128))) [] [] []:=by
 have e:=zXd ⟨m.toNat,zB⟩;simp only[show((m.toNat:Nat):Int)=m by omega]at e;rw[<-e];exact HN hx hy
end
def zXe (n:Int) (h0:0<=n) (h1:n<=4294967295):zN 180 [iA n] [] (.tup [zC yA (qQ n),iA 0]) []:=by
 generalize hR:qQ n=R;refine eM call180 λF hF=>?_
 refine WW ?_;refine vY 11 Z ?_;refine jZ (4) [11] [] [] [0,4] Z (λzn T U zs=>∃(m:Int) (acc:List Int),(0<=m/\m<=4294967295/\m<128 ^ (zn+1)/\acc.length+zn=4/\acc++EL zn m=R)/\zs=⟨(0,iA m)::(4,.ref 11 0 (acc.map yA).length)::T,(11,.arr 1 (acc.map yA) true)::U⟩) ?_;(conv=>whnf);refine⟨?_,?_⟩
 ·exact⟨n,[],⟨h0,h1,by show n<34359738368;omega,rfl,hR⟩,rfl⟩
 ·rintro zn st ⟨m,acc,⟨q0,q1,q2,q3,q4⟩,rfl⟩;have hla:=zA yA acc;by_cases hm:128<=m
  ·obtain⟨z,rfl⟩:∃z,zn=z+1:=by
    cases zn with
    |zero=>exfalso;have:m<128:=q2;omega
    |succ z=>exact⟨z,rfl⟩
   rw[OV hm]at q4;have hd:=zAr q2;have ha:=zO4 q0 q1;have hab:0<=gR m 127/\gR m 127<128:=by omega
   have hs:uS m 7=m/128:=yCu m xL;clear q2
   (repeat' (first|refine uP ?_|apply xM|apply xZ|intro hc|(refine zE ?_;first|(refine wE ?_;refine yJ (zO5 Z Z hab) Z ?_)|refine SM ?_)|fail))
   refine⟨z,zB,uS m 7,acc++[gR m 127+128],⟨zB,zB,by rw[hs];exact hd,by simp;omega,by rw[hs,ha,yA6];exact q4⟩,?_⟩;rw[yAn];rfl
  ·rw[WR zB]at q4;clear q2;subst q4;refine WW ?_;refine zH [] Z Z ?_ Z
   show AV.tup [AV.sl false ((acc.map yA++[yA m]).take (acc.map yA++[yA m]).length),iA 0]=_
   rw[yAh];unfold zC;rw[yAn];rfl
theorem EM:∀(r:List Int) (i:Nat) (n:Int),BY r->i<=5->(ZI r i n).2.2=0->∃q:Int,0<=q/\(ZI r i n).1=n+q*128 ^ i/\(0<i->0<q)/\i<=4/\∃j:Nat,(ZI r i n).2.1=((i+j:Nat):Int)/\EL (4-i) q=r.take j
 | [],i,n,_,_,h=>by exact absurd (show(6:Int)=0 from h) xL
 | x ::r,i,n,hb,h5,h=>by
  have hx:=hb x zS;by_cases hi:i=5
  ·exfalso;rw[ZI,yAd hi]at h;exact absurd (show(6:Int)=0 from h) xL
  by_cases hx1:128<=x
  ·have e:ZI (x::r) i n=ZI r (i+1) (n+x.tmod 128*128 ^ i):=by rw[ZI,yAc hi,yAd hx1]
   rw[e]at h⊢;obtain⟨q,q0,q1,q2,q3,j,q4,q5⟩:=EM r (i+1) _ (λy hy=>hb y (by simp[hy])) zB h;have ht:x.tmod 128=x % 128:=yBz hx.1;have hq:=q2 zB;refine⟨x.tmod 128+q*128,zB,?_,λ_=>by omega,zB,j+1,by rw[q4];omega,?_⟩
   ·rw[q1,yFr,Int.add_mul,Int.mul_assoc,Int.mul_comm 128,Int.add_assoc]
   ·obtain⟨f,hf⟩:∃f,4-i=f+1:=⟨3-i,zB⟩;rw[hf,OV zB,yE4,<-q5,show 4-(i+1)=f by omega]
    congr 1
    ·omega
    ·congr 1
     omega
  ·have hxm:x.tmod 128=x:=by rw[yBz hx.1];omega
   have e:ZI (x::r) i n=if 4294967295<n+x.tmod 128*128 ^ i∨(0<i/\x=0)then(0,0,6)else(n+x.tmod 128*128 ^ i,(i:Int)+1,0):=by rw[ZI,yAc hi,yAc hx1]
   rw[e]at h⊢;by_cases hbad:4294967295<n+x.tmod 128*128 ^ i∨(0<i/\x=0)
   ·rw[yAd hbad]at h;exact absurd (show(6:Int)=0 from h) xL
   ·rw[yAc hbad,hxm];refine⟨x,hx.1,rfl,λh0=>?_,zB,1,by show(i:Int)+1=_;omega,?_⟩
    ·have:x≠0:=λh=>hbad (.inr ⟨h0,h⟩)
     omega
    ·rw[WR zB];rfl
def zIc {b:List Int} (hb:BY b) (h:(cF b).2.2=0):qQ (cF b).1=b.take (cF b).2.1.toNat:=by
 obtain⟨q,_,q1,_,_,j,q4,q5⟩:=EM b 0 0 hb zB h
 have e1:(cF b).1=q:=by
  show(ZI b 0 0).1=q
  rw[q1];simp
 have e2:(cF b).2.1.toNat=j:=by
  show(ZI b 0 0).2.1.toNat=j
  rw[q4];simp
 rw[e1,e2];exact q5
theorem fQ:∀(n:Nat) (b l r:List Int),BY b->aE n b=some (l,r)->l.length=n/\BY r/\(∀x∈l,0<=x/\x<=4294967295)/\b=(l.map qQ).flatten++r
 |0,b,l,r,hb,h=>by
  cases h;exact⟨rfl,hb,by simp,rfl⟩
 | n +1,b,l,r,hb,h=>by
  rw[aE]at h;by_cases he:(cF b).2.2=0
  ·rw[yAd he]at h
   rcases IU b hb with h0|⟨_,h2,h3,h4,h5⟩
   ·rw[h0]at he;exact absurd (show(6:Int)=0 from he) xL
   cases hn:aE n (b.drop (cF b).2.1.toNat)with
   |none=>rw[hn]at h;cases h
   | some p=>
    obtain⟨l',r'⟩:=p;rw[hn]at h;cases h;obtain⟨g1,g2,g3,g4⟩:=fQ n _ l' r (λy hy=>hb y (yBc hy)) hn;refine⟨by simp[g1],g2,λx hx=>?_,?_⟩
    ·rcases yBt.1 hx with rfl|hx
     ·exact⟨h2,h3⟩
     ·exact g3 x hx
    ·rw[yBs,yC0,zIc hb he,yA6,<-g4,yC2]
  ·rw[yAc he]at h;cases h
def EN (b:List Int) (n:Nat) (l r:List Int) (hb:BY b) (hbn:b.length<=100000) (hn:n<=1000) (hok:aE n b=some (l,r)):zN 104 [zC yA b,iA n] [] (.tup [.ref 1001 0 (l.map iA).length,zC yA r,bA true]) [(1001,.arr 1 (l.map iA) true)]:=by
 refine eM call104 λF hF=>?_
 (repeat' (first|refine uP ?_|apply xM|apply xZ|intro hc|(refine zE ?_;first|(refine gP ?_;refine cW 1001 tok Z Z Z Z Z Z Z Z Z Z Z Z Z zB zB Z Z Z ?_))|fail))
 refine vY 1001 Z ?_;refine xS (n) [1001] [] [13] [0,7,14,13] Z (λi T U zs=>∃acc c,(acc.length=i/\BY c/\c.length<=100000/\aE n b=nbG acc (aE (n-i) c))/\zs=⟨(0,zC yA c)::(7,.ref 1001 0 (acc.map iA).length)::(14,iA i)::T,(1001,.arr 1 (acc.map iA) true)::U⟩) ?_;(conv=>whnf);refine⟨?_,?_,?_⟩
 ·exact⟨[],b,⟨rfl,hb,hbn,by rw[IV];rfl⟩,rfl⟩
 ·rintro i st hi ⟨acc,c,⟨q0,q1,q2,q3⟩,rfl⟩;have hd:=zXi c q1 q2;have hl:=zA yA c;have hla:=zA iA acc;rw[show n-i=(n-(i+1))+1 by omega]at q3
  rcases IU c q1 with h|⟨h1,h2,h3,h4,h5⟩
  ·rw[zAv (by rw[h];decide),hok]at q3;cases q3
  ·rw[zAw h1]at q3;rw[h1]at hd;have hbd:BY (c.drop (cF c).2.1.toNat):=λy hy=>q1 y (yBc hy)
   have hcd:(c.drop (cF c).2.1.toNat).length<=100000:=by rw[yA7];omega
   clear h1;generalize (cF c).1=v at *;generalize (cF c).2.1=k at *;refine zV hd ?_;refine⟨acc++[v],c.drop k.toNat,⟨by simp[q0],hbd,hcd,q3⟩,?_⟩;rw[yAn];rfl
 ·rintro st ⟨acc,c,⟨q0,q1,q2,q3⟩,rfl⟩;rw[yCm,hok]at q3;have e:(l,r)=(acc++[],c):=yCr q3;rw[yA8]at e;cases e;refine WW ?_;exact zK [1001] rfl rfl rfl rfl
def vS (k:Int):Nat:=if k=2∨k=6 then 3 else if k=4 then 2 else if k=1∨k=9∨k=12 then 0 else 1
def xX (k:Int):Nat:=if k=6 then 4 else if k=7 then 2 else 0
def shA (fx gr:Nat):AV:= .agg [iA 10,iA fx,iA gr,iA (if gr=0 then 0 else 1),iA (if gr=0 then 0 else 3),iA 0]
def zFd (k:Int) (h0:1<=k) (h1:k<=12):zN 103 [iA k] [] (.tup [shA (vS k) (xX k),bA true]) []:=by
 obtain rfl|rfl|rfl|rfl|rfl|rfl|rfl|rfl|rfl|rfl|rfl|rfl:k=1∨k=2∨k=3∨k=4∨k=5∨k=6∨k=7∨k=8∨k=9∨k=10∨k=11∨k=12:=by omega
 all_goals (refine eM call103 λF hF=>?_)
 all_goals (refine WW ?_)
 all_goals exact zJ
def OW (fx gr:Nat) (p:List Int):Option (List Int):=
 if 200<p.length∨p.length<10 then none else match aE fx (p.drop 10)with
 |none=>none
 | some (a,r)=>if gr=0 then(if r=[]then some a else none)else match aE 1 r with
  |none=>none
  |some (c,r2)=>if c.getD 0 0<1∨3<c.getD 0 0 then none else match aE ((c.getD 0 0).toNat*gr) r2 with
   |none=>none
   |some (f,r3)=>if r3=[]then some (a++f)else none
def deT (k:Int) (tok:List Int):Option (List Int)->AV
 |none=> .tup [yB ⟨0,[],[],[]⟩,iA 6]
 |some a=> .tup [yB ⟨k,tok,a,[]⟩,iA 0]
theorem zId (k:Int) (h0:1<=k) (h1:k<=12) (p:List Int) (hb:BY p) (hn:p.length<=100000):zN 69 [iA k,zC yA p] [] (deT k (p.take 10) (OW (vS k) (xX k) p)) []:=by
 have hl:=zA yA p;have c1:=zFd k h0 h1
 have hf:vS k<=3:=by
  unfold vS
  repeat' split
  all_goals omega
 have hg:xX k=0∨(2<=xX k/\xX k<=4):=by
  unfold xX
  repeat' split
  all_goals omega
 generalize vS k=fx at *;generalize xX k=gr at *;unfold shA at c1;by_cases hlen:200<p.length∨p.length<10
 ·rw[show OW fx gr p=none from yAd hlen]
  show zN 69 [iA k,zC yA p] [] (.tup [yB ⟨0,[],[],[]⟩,iA 6]) []
  by_cases h2:200<p.length
  ·(refine eM call69 λF hF=>?_)
   refine zV c1 ?_;exact zJ
  ·have h3:=hlen.resolve_left h2;refine eM call69 λF hF=>?_
   refine zV c1 ?_;exact zJ
 have e0:OW fx gr p=_:=yAc hlen;rw[e0];clear e0;have hbd:BY (p.drop 10):=λy hy=>hb y (yBc hy)
 have hdl:(p.drop 10).length<=100000:=by rw[yA7];omega
 have c2:=YZ (p.drop 10) fx hbd hdl zB
 cases hnb:aE fx (p.drop 10)with
 |none=>
  rw[hnb]at c2
  show zN 69 [iA k,zC yA p] [] (.tup [yB ⟨0,[],[],[]⟩,iA 6]) []
  unfold AR at c2;refine eM call69 λF hF=>?_
  refine yQ (wV c1 c2) ?_;exact zJ
 |some q=>
 obtain⟨a,r⟩:=q;obtain⟨ha,hbr,har,hsp⟩:=fQ _ _ _ _ hbd hnb
 have hrl:r.length<=100000:=by
  have:=yBa List.length hsp;rw[yAf]at this;omega
 have hlr:=zA yA r;have hla:=zA iA a;have k1:=wL (p.take 10) NS
 rcases hg with rfl|⟨g2,g4⟩
 ·rw[hnb]at c2;unfold AR at c2;dsimp only;rw[yAd Z];by_cases hr:r=[]
  ·subst hr;have k2:=wL [] zS;rw[yAd Z]
   show zN 69 [iA k,zC yA p] [] (.tup [yB ⟨k,p.take 10,a,[]⟩,iA 0]) []
   refine eM call69 λF hF=>?_
   refine yQ (ZB c1 c2 k1 k2) ?_;exact zJ
  ·have hr0:r.length≠0:=λh=>hr (yBb h)
   rw[yAc hr]
   show zN 69 [iA k,zC yA p] [] (.tup [yB ⟨0,[],[],[]⟩,iA 6]) []
   refine eM call69 λF hF=>?_
   refine yQ (wV c1 c2) ?_;exact zJ
 have c2o:=EN (p.drop 10) fx a r hbd hdl zB hnb;have c3:=YZ r 1 hbr hrl zB;clear c2;dsimp only;rw[yAc zB]
 cases hnc:aE 1 r with
 |none=>
  rw[hnc]at c3;unfold AR at c3
  show zN 69 [iA k,zC yA p] [] (.tup [yB ⟨0,[],[],[]⟩,iA 6]) []
  refine eM call69 λF hF=>?_
  refine yQ (gG c1 c2o c3) ?_;exact zJ
 |some q2=>
 obtain⟨c,r2⟩:=q2;obtain⟨hc1,hbr2,hcr,hsp2⟩:=fQ _ _ _ _ hbr hnc
 obtain⟨v,rfl⟩:∃v,c=[v]:=by
  cases c with
  |nil=>cases hc1
  |cons v c=>cases c with
   |nil=>exact⟨v,rfl⟩
   |cons w c=>simp at hc1
 have hrl2:r2.length<=100000:=by
  have:=yBa List.length hsp2;rw[yAf]at this;omega
 rw[hnc]at c3;unfold AR at c3;dsimp only;rw[show [v].getD 0 0=v from Z];by_cases hv:v<1∨3<v
 ·rw[yAd hv]
  show zN 69 [iA k,zC yA p] [] (.tup [yB ⟨0,[],[],[]⟩,iA 6]) []
  by_cases hv1:v<1
  ·(refine eM call69 λF hF=>?_)
   refine yQ (gG c1 c2o c3) ?_;exact zJ
  ·have hv2:=hv.resolve_left hv1;refine eM call69 λF hF=>?_
   refine yQ (gG c1 c2o c3) ?_;exact zJ
 rw[yAc hv];have hvg:v.toNat*gr<=12:=yBn (yDn (show v.toNat<=3 by omega) g4) xL;have evg:((v.toNat*gr:Nat):Int)=v*(gr:Int):=by rw[yF7,yEl zB]
 have c4:=YZ r2 (v.toNat*gr) hbr2 hrl2 zB;rw[evg]at c4;have hm:0<=v*(gr:Int)/\v*(gr:Int)<=12:=by rw[<-evg];omega
 clear evg
 cases hnd:aE (v.toNat*gr) r2 with
 |none=>
  rw[hnd]at c4;unfold AR at c4
  show zN 69 [iA k,zC yA p] [] (.tup [yB ⟨0,[],[],[]⟩,iA 6]) []
  refine eM call69 λF hF=>?_
  refine yQ (ZB c1 c2o c3 c4) ?_;exact zJ
 |some q3=>
 obtain⟨f,r3⟩:=q3;obtain⟨hfl,hbr3,hfr,hsp3⟩:=fQ _ _ _ _ hbr2 hnd;have hlf:=zA iA f;have hlr3:=zA yA r3;rw[hnd]at c4;unfold AR at c4;dsimp only;by_cases hr:r3=[]
 ·subst hr;have k2:=wL [] zS;rw[yAd Z]
  show zN 69 [iA k,zC yA p] [] (.tup [yB ⟨k,p.take 10,a++f,[]⟩,iA 0]) []
  refine eM call69 λF hF=>?_
  refine yQ (zt6 c1 c2o c3 c4 k1 k2) ?_;refine zH [] Z Z ?_ Z
  show AV.tup [.agg [iA k,zC yA (p.take 10),.sl false ((a.map iA++f.map iA).take (a.map iA++f.map iA).length),zC yA []],iA 0]=_
  rw[yAh,<-yAn];rfl
 ·have hr0:r3.length≠0:=λh=>hr (yBb h)
  rw[yAc hr]
  show zN 69 [iA k,zC yA p] [] (.tup [yB ⟨0,[],[],[]⟩,iA 6]) []
  refine eM call69 λF hF=>?_
  refine yQ (ZB c1 c2o c3 c4) ?_;exact zJ
def zAs (fx gr:Nat):AV:= .agg [iA fx,iA gr,iA (if gr=0 then 0 else 1),iA (if gr=0 then 0 else 3),iA 0]
def zAt (k:Int) (h0:1<=k) (h1:k<=12):zN 106 [iA k] [] (zAs (vS k) (xX k)) []:=by
 obtain rfl|rfl|rfl|rfl|rfl|rfl|rfl|rfl|rfl|rfl|rfl|rfl:k=1∨k=2∨k=3∨k=4∨k=5∨k=6∨k=7∨k=8∨k=9∨k=10∨k=11∨k=12:=by omega
 all_goals (refine eM call106 λF hF=>?_)
 all_goals (refine WW ?_)
 all_goals exact zJ
def PN (fx gr:Nat) (c:Int):Nat->List Int->List Int
 |_,[]=>[]
 |i,x::r=>(if i=fx/\gr≠0 then [c]else [])++(qQ x++PN fx gr c (i+1) r)
def WU (fx gr:Nat) (c:Int) (m:Ms):List Int:=(m.tok++PN fx gr c 0 m.args)++((if gr≠0/\m.args.length=fx then [0]else [])++m.data)
theorem zCz:∀(f:Nat) (n:Int),1<=(EL f n).length/\(EL f n).length<=f+1
 |0,n=>by simp[EL]
 |f+1,n=>by
  have:=zCz f (n/128);rw[EL];split
  ·simp
  ·rw[yAp];omega
def jW (n:Int):1<=(qQ n).length/\(qQ n).length<=5:=zCz 4 n
theorem YX (k:Int) (h0:1<=k) (h1:k<=12) (m:Ms) (c:Nat) (hk:m.kind=k) (ht:m.tok.length=10) (hd:m.data.length<=100000) (ha:∀x∈m.args,0<=x/\x<=4294967295) (hn:m.args.length<=1000) (hc:xX k≠0->m.args.length=vS k+c*xX k) (hc3:c<=3):
  zN 99 [yB m] [] (zC yA (WU (vS k) (xX k) c m)) []:=by
 subst hk;have c1:=zAt m.kind h0 h1
 have hg:xX m.kind<=4:=by
  unfold xX
  repeat' split
  all_goals omega
 generalize vS m.kind=fx at *;generalize xX m.kind=gr at *;unfold zAs at c1;have hlt:=zA yA m.tok;have hla:=zA iA m.args;have hld:=zA yA m.data;unfold WU;generalize hT:m.tok++PN fx gr c 0 m.args=tot;refine eM call99 λF hF=>?_
 (have zc1:=c1;(repeat' (first|refine uP ?_|apply xM|apply xZ|intro hc|(refine zE ?_;first|(refine yK ?_;refine gQ 1001 tok Z Z Z Z Z Z (yC _ _ (λ_=>rfl)) Z Z Z zB Z Z Z ?_))|fail))<;>clear zc1)
 refine vY 1001 Z ?_;refine kO (m.args) [1001,1,3] [1,3] [1,3,16,17] [4,18,1,3,16,17] Z (λi pre T U zs=>∃acc:List Int,(acc.length<=10+6*i/\∀post,m.args=pre++post->acc++PN fx gr c i post=tot)/\zs=⟨(4,.ref 1001 0 (acc.map yA).length)::(18,iA i)::T,(1001,.arr 1 (acc.map yA) true)::U⟩) ?_;(conv=>whnf);refine⟨?_,?_,?_⟩
 ·exact⟨m.tok,⟨zB,λpost h=>by rw[<-hT,h];rfl⟩,rfl⟩
 ·rintro i pre x post st hx hi ⟨acc,⟨q0,q1⟩,rfl⟩;have hy:=xG iA hx hi;have hlt2:=yP hx hi;have hxr:=ha x (wT hx);have hla2:=zA yA acc;have he:=jW x;have c2:=zXc x hxr.1 hxr.2;have hle:=zA yA (qQ x)
  have hpost:∀p,m.args=pre++[x]++p->p=post:=λp h=>by
   rw[hx,yA6]at h;simpa using h.symm
  have hT3:=q1 _ hx;clear q1 hT hx;by_cases hi2:i=fx/\gr≠0
  ·obtain⟨rfl,hg0⟩:=hi2;have hcl:=hc hg0
   have hq:(((m.args.map iA).length:Int)-(i:Int)).tdiv (gr:Int)=(c:Int):=by
    rw[hla,hcl,show(((i+c*gr:Nat):Int)-(i:Int))=(c:Int)*(gr:Int) by rw[yFq,yF7];omega];exact Int.mul_tdiv_cancel _ zB
   have hir:ZM .i64 ((((m.args.map iA).length:Int)-(i:Int)).tdiv (gr:Int)):=by rw[hq];exact⟨zB,zB⟩
   have e:PN i gr c i (x::post)=[(c:Int)]++(qQ x++PN i gr c (i+1) post):=by rw[PN,yAd ⟨rfl,hg0⟩]
   rw[e]at hT3;clear e hcl hc;generalize qQ x=ex at *;refine yQ (wV c1 c2) ?_;refine⟨acc++[(c:Int)]++ex,⟨by simp;omega,λp h=>by rw[hpost p h,<-hT3];simp⟩,?_⟩;rw[yAn,yAn,<-hq];rfl
  ·have e:PN fx gr c i (x::post)=qQ x++PN fx gr c (i+1) post:=by rw[PN,yAc hi2];rfl
   rw[e]at hT3;clear e hc;generalize qQ x=ex at *;by_cases hif:i=fx
   ·have hg0:gr=0:=by
     by_cases h:gr=0
     ·exact h
     ·exact absurd ⟨hif,h⟩ hi2
    refine yQ (wV c1 c2) ?_;refine⟨acc++ex,⟨by simp;omega,λp h=>by rw[hpost p h,<-hT3];simp⟩,?_⟩;rw[yAn];rfl
   ·(refine yQ (wV c1 c2) ?_)
    refine⟨acc++ex,⟨by simp;omega,λp h=>by rw[hpost p h,<-hT3];simp⟩,?_⟩;rw[yAn];rfl
 ·rintro st ⟨acc,⟨q0,q1⟩,rfl⟩;have e:=q1 [] zS;rw[show PN fx gr c m.args.length []=[]from rfl,yA8]at e;subst e;have hla2:=zA yA acc;clear q1 hT hc;by_cases hz:gr≠0/\m.args.length=fx
  ·rw[yAd hz];obtain⟨hz1,hz2⟩:=hz;refine WW ?_;refine zH [] Z Z ?_ Z
   show AV.sl false ((acc.map yA++[yA 0]++m.data.map yA).take (acc.map yA++[yA 0]++m.data.map yA).length)=_
   rw[yAh];unfold zC;rw[yAn,yAn,yA6];rfl
  ·rw[yAc hz];by_cases hz1:gr=0
   ·(refine WW ?_)
    refine zH [] Z Z ?_ Z
    show AV.sl false ((acc.map yA++m.data.map yA).take (acc.map yA++m.data.map yA).length)=_
    rw[yAh];unfold zC;rw[yAn];rfl
   ·have hz2:m.args.length≠fx:=λh=>hz ⟨hz1,h⟩
    refine WW ?_;refine zH [] Z Z ?_ Z
    show AV.sl false ((acc.map yA++m.data.map yA).take (acc.map yA++m.data.map yA).length)=_
    rw[yAh];unfold zC;rw[yAn];rfl
def aB (k:Int):zN 107 [iA k] [] (bA (decide (1<=k/\k<=12))) []:=by
 cases hb:decide (1<=k/\k<=12)with
 |false=>(rw[yAy]at hb;(refine eM call107 λF hF=>?_);((refine WW (I2 (λhc=>?_) λhc=>?_)));all_goals (first|exact zJ|exact zXO|exact AT))
 |true=>(rw[yAm]at hb;(refine eM call107 λF hF=>?_);((refine WW ?_));all_goals (first|exact zJ|exact zXO|exact AT))
def fS (k:Int):zN 199 [iA k] [] (bA (decide (1<=k/\k<=12))) []:=by
 cases hb:decide (1<=k/\k<=12)with
 |false=>(rw[yAy]at hb;(refine eM call199 λF hF=>?_);((refine WW (I2 (λhc=>?_) λhc=>?_)));all_goals (first|exact zJ|exact zXO|exact AT))
 |true=>(rw[yAm]at hb;(refine eM call199 λF hF=>?_);((refine WW ?_));all_goals (first|exact zJ|exact zXO|exact AT))
theorem IO (fx gr:Nat) (c:Int):∀(l:List Int) (i:Nat),(PN fx gr c i l).length<=6*l.length
 | [],i=>by simp[PN]
 |x::r,i=>by
  have h1:=IO fx gr c r (i+1);have h2:=jW x;rw[PN,yAf,yAf,yAp]
  have h3:(if i=fx/\gr≠0 then [c]else []).length<=1:=by split<;>simp
  omega
def vmF (gr c:Nat) (d:List Int):Bool:=decide (d.length=0/\(gr=0∨1<=c))
def IP (k:Int):xX k=0∨xX k=2∨xX k=4:=by
 unfold xX
 repeat' split
 all_goals omega
def IQ (k:Int):vS k<=3:=by
 unfold vS
 repeat' split
 all_goals omega
theorem OX (k:Int) (h0:1<=k) (h1:k<=12) (m:Ms) (c:Nat) (hk:m.kind=k) (ht:m.tok.length=10) (hd:m.data.length<=100000) (ha:∀x∈m.args,0<=x/\x<=4294967295) (hc:m.args.length=vS k+c*xX k) (hc3:c<=3):
  zN 98 [yB m] [] (bA (vmF (xX k) c m.data)) []:=by
 have c1:=zAt k h0 h1;have c2:=aB k;have hf:=IQ k;rw[yAj ⟨h0,h1⟩]at c2;have c3:=YX k h0 h1 m c hk ht hd ha (by have:=IP k;rcases this with h|h|h<;>rw[h]at hc<;>omega) (λ_=>hc) hc3
 have hpl:(WU (vS k) (xX k) c m).length<=10+(6*m.args.length+(1+m.data.length)):=by
  have h1:=IO (vS k) (xX k) c m.args 0
  have h3:(if xX k≠0/\m.args.length=vS k then [(0:Int)]else []).length<=1:=by split<;>simp
  unfold WU;rw[yAf,yAf,yAf];omega
 have hlp:=zA yA (WU (vS k) (xX k) c m);have hg:=IP k;subst hk;generalize WU (vS m.kind) (xX m.kind) c m=pl at *;generalize vS m.kind=fx at *;generalize xX m.kind=gr at *;unfold zAs at c1;have hlt:=zA yA m.tok;have hla:=zA iA m.args;have hld:=zA yA m.data
 cases hb:vmF gr c m.data with
 | true=>
  unfold vmF at hb;rw[yAm]at hb;obtain⟨hb1,hb2⟩:=hb
  rcases hg with rfl|rfl|rfl
  ·rw[yAd Z,yAd Z]at c1;refine eM call98 λF hF=>?_
   refine yQ (wV c1 c2) ?_;refine yM (m.args) [1] [1] [1,97,98] [99,1,97,98] Z (λi pre T U=>⟨(99,iA i)::T,U⟩) ?_;(conv=>whnf);refine⟨by rfl,?_,?_⟩
   ·intro i pre x post hx hi;have hy:=xG iA hx hi;have hlt2:=yP hx hi;have hxr:=ha x (wT hx);clear hx;refine WW ?_;rfl
   ·(refine zV c3 ?_)
    exact zJ
  all_goals
   rw[yAc xL,yAc xL]at c1;have hm2:(((m.args.map iA).length:Int)-(fx:Int)).tmod ((2:Nat):Int)=0:=by rw[yBz zB];omega
   have hm4:(((m.args.map iA).length:Int)-(fx:Int)).tmod ((4:Nat):Int)=(((m.args.map iA).length:Int)-(fx:Int)) % 4:=yBz zB;refine eM call98 λF hF=>?_
   refine yQ (wV c1 c2) ?_;refine yM (m.args) [1] [1] [1,97,98] [99,1,97,98] Z (λi pre T U=>⟨(99,iA i)::T,U⟩) ?_;(conv=>whnf);refine⟨by rfl,?_,?_⟩
   ·intro i pre x post hx hi;have hy:=xG iA hx hi;have hlt2:=yP hx hi;have hxr:=ha x (wT hx);clear hx;refine WW ?_;rfl
   ·(refine zV c3 ?_)
    exact zJ
 | false=>
  unfold vmF at hb;rw[yAy]at hb
  rcases hg with rfl|rfl|rfl
  ·rw[yAd Z,yAd Z]at c1;have hd0:m.data.length≠0:=λh=>hb ⟨h,.inl Z⟩
   refine eM call98 λF hF=>?_
   refine yQ (wV c1 c2) ?_;exact zJ
  all_goals
   rw[yAc xL,yAc xL]at c1;have hm2:(((m.args.map iA).length:Int)-(fx:Int)).tmod ((2:Nat):Int)=0:=by rw[yBz zB];omega
   have hm4:(((m.args.map iA).length:Int)-(fx:Int)).tmod ((4:Nat):Int)=(((m.args.map iA).length:Int)-(fx:Int)) % 4:=yBz zB;by_cases hc1:1<=c
   ·have hd0:m.data.length≠0:=λh=>hb ⟨h,.inr hc1⟩
    refine eM call98 λF hF=>?_
    refine yQ (wV c1 c2) ?_;exact zJ
   ·(refine eM call98 λF hF=>?_)
    refine yQ (wV c1 c2) ?_;exact zJ
theorem OY:∀l:List Int,((l.map qQ).flatten).length<=5*l.length
 | []=>by simp
 |x::l=>by
  have h1:=OY l;have h2:=jW x;rw[yBs,yC0,yAf,yAp];omega
theorem zSd (fx:Nat) (c:Int):∀(l:List Int) (i:Nat),PN fx 0 c i l=(l.map qQ).flatten
 | [],i=>rfl
 |x::l,i=>by
  rw[PN,zSd fx c l (i+1),yAc (λh=>h.2 Z)];rfl
theorem zIe (fx gr:Nat) (c:Int):∀(l:List Int) (i:Nat),fx<i->PN fx gr c i l=(l.map qQ).flatten
 | [],i,_=>rfl
 |x::l,i,h=>by
  rw[PN,zIe fx gr c l (i+1) zB,yAc (λh2=>by omega)];rfl
theorem zC0 (fx gr:Nat) (c:Int) (hg:gr≠0) (f:List Int) (hf:f≠[]):∀(a:List Int) (i:Nat),i+a.length=fx->PN fx gr c i (a++f)=(a.map qQ).flatten++([c]++(f.map qQ).flatten)
 | [],i,h=>by
  cases f with
  |nil=>exact absurd Z hf
  |cons x f=>
   have hi:i=fx:=by simpa using h
   rw[yCc,PN,yAd ⟨hi,hg⟩,zIe fx gr c f (i+1) zB];rfl
 |x::a,i,h=>by
  rw[yC5,PN,zC0 fx gr c hg f hf a (i+1) (by rw[yAp]at h;omega),yAc (λh2=>by rw[yAp]at h;omega),yCc,yBs,yC0,yA6]
theorem zFe (k:Int) (h0:1<=k) (h1:k<=12) (p:List Int) (hb:BY p) (hn:p.length<=100000):zN 71 [iA k,zC yA p] [] (deT k (p.take 10) (OW (vS k) (xX k) p)) []:=by
 have hl:=zA yA p;have c1:=zAt k h0 h1;have cf:=aB k;rw[yAj ⟨h0,h1⟩]at cf;have hf:=IQ k;have hg:=IP k;by_cases hlen:p.length<10
 ·rw[show OW (vS k) (xX k) p=none from yAd (.inr hlen)]
  show zN 71 [iA k,zC yA p] [] (.tup [yB ⟨0,[],[],[]⟩,iA 6]) []
  unfold zAs at c1;refine eM call71 λF hF=>?_
  refine yQ (wV c1 cf) ?_;exact zJ
 have hbd:BY (p.drop 10):=λy hy=>hb y (yBc hy)
 have hdl:(p.drop 10).length<=100000:=by rw[yA7];omega
 have htl:((p.take 10).map yA).length=10:=by rw[yAe,yAw];omega
 have htl2:((p.take (10:Int).toNat).map yA).length=10:=htl;have c2:=VB (p.drop 10) (vS k) hbd hdl zB
 cases hnb:aE (vS k) (p.drop 10)with
 | none=>
  have e:OW (vS k) (xX k) p=none:=by
   unfold OW;rw[hnb]
   split<;>rfl
  rw[e];rw[hnb]at c2
  show zN 71 [iA k,zC yA p] [] (.tup [yB ⟨0,[],[],[]⟩,iA 6]) []
  unfold AR at c2;unfold zAs at c1;refine eM call71 λF hF=>?_
  (have zc1:=c1;have zc2:=cf;have zc3:=c2;(repeat' (first|refine uP ?_|apply xM|apply xZ|intro hc|(refine zE ?_;first|(refine yK ?_;refine fI tok Z Z Z Z Z Z (yC _ _ (λ_=>rfl)) Z Z Z zB Z Z Z ?_))|fail))<;>clear zc1 zc2 zc3)
  exact zJ
 |some q=>
 obtain⟨a,r⟩:=q;obtain⟨ha,hbr,har,hsp⟩:=fQ _ _ _ _ hbd hnb;have hfl:=OY a
 have hpl:p.length=10+(((a.map qQ).flatten).length+r.length):=by
  have:=yBa List.length hsp;rw[yAf,yA7]at this;omega
 have hsp0:p=p.take 10++((a.map qQ).flatten++r):=by rw[<-hsp,yC2]
 have hlr:=zA yA r;have hla:=zA iA a;have hrl:r.length<=100000:=by omega
 rw[hnb]at c2;unfold AR at c2
 rcases Nat.eq_zero_or_pos (xX k)with hg0|hg0
 ·have v1:=OX k h0 h1 ⟨k,p.take 10,a,r⟩ 0 Z NS hrl har (by rw[hg0];exact ha) zB;have v2:=YX k h0 h1 ⟨k,p.take 10,a,r⟩ 0 Z NS hrl har (by show a.length<=1000;omega) (λh=>absurd hg0 h) zB;rw[hg0]at v1 v2 c1⊢;unfold zAs at c1;by_cases hr:r=[]
  ·subst hr
   have e:OW (vS k) 0 p=some a:=by
    unfold OW;rw[yAc (by rw[yBk]at hpl;omega),hnb];rfl
   have e2:WU (vS k) 0 0 ⟨k,p.take 10,a,[]⟩=p:=by
    unfold WU;rw[zSd]
    conv=>rhs;rw[hsp0]
    simp
   rw[e];rw[show((0:Nat):Int)=0 from Z,e2]at v2;rw[show vmF 0 0 ([]:List Int)=true from Z]at v1;have heq:=qZ p;clear e2 hsp0 hnb hsp
   show zN 71 [iA k,zC yA p] [] (.tup [yB ⟨k,p.take 10,a,[]⟩,iA 0]) []
   generalize vS k=fx at *;refine eM call71 λF hF=>?_
   (have zc1:=c1;have zc2:=cf;have zc3:=c2;have zc4:=v1;have zc5:=v2;(repeat' (first|refine uP ?_|apply xM|apply xZ|intro hc|(refine zE ?_;first|(refine yK ?_;first|(refine uN [4,6,7] [0,1,4,5,6,7,93] Z ?_;(conv=>whnf);(try simp only[yBf,yAh]);refine kY tok Z Z Z Z Z Z (yC _ _ (λ_=>rfl)) Z Z Z zB Z ?_)|refine fI tok Z Z Z Z Z Z (yC _ _ (λ_=>rfl)) Z Z Z zB Z Z Z ?_))|fail))<;>clear zc1 zc2 zc3 zc4 zc5)
   exact zJ
  ·have hr0:r.length≠0:=λh=>hr (yBb h)
   have e:OW (vS k) 0 p=none:=by
    unfold OW;rw[hnb];split
    ·rfl
    ·show(if(0:Nat)=0 then(if r=[]then some a else none)else _)=none
     rw[yAd Z,yAc hr]
   rw[e];rw[show vmF 0 0 r=false from yAl (λh=>hr0 h.1)]at v1;clear v2 hsp0 hnb hsp
   show zN 71 [iA k,zC yA p] [] (.tup [yB ⟨0,[],[],[]⟩,iA 6]) []
   generalize vS k=fx at *;refine eM call71 λF hF=>?_
   (have zc1:=c1;have zc2:=cf;have zc3:=c2;have zc4:=v1;(repeat' (first|refine uP ?_|apply xM|apply xZ|intro hc|(refine zE ?_;first|(refine yK ?_;first|(refine uN [4,6,7] [0,1,4,5,6,7,93] Z ?_;(conv=>whnf);(try simp only[yBf,yAh]);refine kY tok Z Z Z Z Z Z (yC _ _ (λ_=>rfl)) Z Z Z zB Z ?_)|refine fI tok Z Z Z Z Z Z (yC _ _ (λ_=>rfl)) Z Z Z zB Z Z Z ?_))|fail))<;>clear zc1 zc2 zc3 zc4)
   exact zJ
 have hg4:xX k<=4:=by omega
 have c3:=VB r 1 hbr hrl zB;unfold zAs at c1;rw[yAc zB,yAc zB]at c1
 cases hnc:aE 1 r with
 | none=>
  have e:OW (vS k) (xX k) p=none:=by
   unfold OW;rw[hnb];split
   ·rfl
   ·show(if xX k=0 then _ else match aE 1 r with|none=>none|some (c,r2)=>_)=none
    rw[yAc zB,hnc]
  rw[e];rw[hnc]at c3;unfold AR at c3
  show zN 71 [iA k,zC yA p] [] (.tup [yB ⟨0,[],[],[]⟩,iA 6]) []
  clear hsp0 hnb hsp hnc e;generalize vS k=fx at *;generalize xX k=gr at *;refine eM call71 λF hF=>?_
  (have zc1:=c1;have zc2:=cf;have zc3:=c2;have zc4:=c3;(repeat' (first|refine uP ?_|apply xM|apply xZ|intro hc|(refine zE ?_;first|(refine yK ?_;first|(refine uN [4,6,7] [0,1,4,5,6,7,93] Z ?_;(conv=>whnf);(try simp only[yBf,yAh]);refine kY tok Z Z Z Z Z Z (yC _ _ (λ_=>rfl)) Z Z Z zB Z ?_)|refine fI tok Z Z Z Z Z Z (yC _ _ (λ_=>rfl)) Z Z Z zB Z Z Z ?_))|fail))<;>clear zc1 zc2 zc3 zc4)
  exact zJ
 |some q2=>
 obtain⟨c,r2⟩:=q2;obtain⟨hc1,hbr2,hcr,hsp2⟩:=fQ _ _ _ _ hbr hnc
 obtain⟨v,rfl⟩:∃v,c=[v]:=by
  cases c with
  |nil=>cases hc1
  |cons v c=>cases c with
   |nil=>exact⟨v,rfl⟩
   |cons w c=>simp at hc1
 have hv0:=(hcr v zS).1
 have hrl2:r2.length<=100000:=by
  have:=yBa List.length hsp2;rw[yAf]at this;omega
 rw[hnc]at c3;unfold AR at c3
 have eD:¬(200<p.length∨p.length<10)->OW (vS k) (xX k) p=if v<1∨3<v then none else match aE (v.toNat*xX k) r2 with
   |none=>none
   |some (f,r3)=>if r3=[]then some (a++f)else none:=λh=>by
  unfold OW;rw[yAc h,hnb]
  show(if xX k=0 then _ else match aE 1 r with|none=>none|some (c,r2)=>_)=_
  rw[yAc zB,hnc];rfl
 by_cases hv3:3<v
 ·have e:OW (vS k) (xX k) p=none:=by
   by_cases h:200<p.length∨p.length<10
   ·exact yAd h
   ·rw[eD h,yAd (.inr hv3)]
  rw[e]
  show zN 71 [iA k,zC yA p] [] (.tup [yB ⟨0,[],[],[]⟩,iA 6]) []
  clear hsp0 hnb hsp hnc e eD hsp2;generalize vS k=fx at *;generalize xX k=gr at *;refine eM call71 λF hF=>?_
  (have zc1:=c1;have zc2:=cf;have zc3:=c2;have zc4:=c3;(repeat' (first|refine uP ?_|apply xM|apply xZ|intro hc|(refine zE ?_;first|(refine yK ?_;first|(refine uN [4,6,7] [0,1,4,5,6,7,93] Z ?_;(conv=>whnf);(try simp only[yBf,yAh]);refine kY tok Z Z Z Z Z Z (yC _ _ (λ_=>rfl)) Z Z Z zB Z ?_)|refine fI tok Z Z Z Z Z Z (yC _ _ (λ_=>rfl)) Z Z Z zB Z Z Z ?_))|fail))<;>clear zc1 zc2 zc3 zc4)
  exact zJ
 have hvg:v.toNat*xX k<=12:=yBn (yDn (show v.toNat<=3 by omega) hg4) xL;have evg:((v.toNat*xX k:Nat):Int)=v*(xX k:Int):=by rw[yF7,yEl zB]
 have c4:=VB r2 (v.toNat*xX k) hbr2 hrl2 zB;have hm:0<=v*(xX k:Int)/\v*(xX k:Int)<=12:=by rw[<-evg];omega
 cases hnd:aE (v.toNat*xX k) r2 with
 | none=>
  have e:OW (vS k) (xX k) p=none:=by
   by_cases h:200<p.length∨p.length<10
   ·exact yAd h
   ·rw[eD h,hnd]
    split<;>rfl
  rw[e];rw[hnd,evg]at c4;unfold AR at c4
  show zN 71 [iA k,zC yA p] [] (.tup [yB ⟨0,[],[],[]⟩,iA 6]) []
  clear hsp0 hnb hsp hnc e eD hsp2 hnd evg hvg;generalize vS k=fx at *;generalize xX k=gr at *;refine eM call71 λF hF=>?_
  (have zc1:=c1;have zc2:=cf;have zc3:=c2;have zc4:=c3;have zc5:=c4;(repeat' (first|refine uP ?_|apply xM|apply xZ|intro hc|(refine zE ?_;first|(refine yK ?_;first|(refine uN [4,6,7] [0,1,4,5,6,7,93] Z ?_;(conv=>whnf);(try simp only[yBf,yAh]);refine kY tok Z Z Z Z Z Z (yC _ _ (λ_=>rfl)) Z Z Z zB Z ?_)|refine fI tok Z Z Z Z Z Z (yC _ _ (λ_=>rfl)) Z Z Z zB Z Z Z ?_))|fail))<;>clear zc1 zc2 zc3 zc4 zc5)
  exact zJ
 |some q3=>
 obtain⟨f,r3⟩:=q3;obtain⟨hfl3,hbr3,hfr,hsp3⟩:=fQ _ _ _ _ hbr2 hnd;have hlf:=zA iA f;have hf12:f.length<=12:=by omega
 have hlr3:=zA yA r3
 have hrl3:r3.length<=100000:=by
  have:=yBa List.length hsp3;rw[yAf]at this;omega
 rw[hnd,evg]at c4;unfold AR at c4;have hal:(a++f).length=vS k+v.toNat*xX k:=by rw[yAf,ha,hfl3]
 have har2:∀x∈a++f,0<=x/\x<=4294967295:=λx hx=>by
  rcases yAz.1 hx with h|h
  ·exact har x h
  ·exact hfr x h
 have v1:=OX k h0 h1 ⟨k,p.take 10,a++f,r3⟩ v.toNat Z NS hrl3 har2 hal zB;have v2:=YX k h0 h1 ⟨k,p.take 10,a++f,r3⟩ v.toNat Z NS hrl3 har2 (by show(a++f).length<=1000;omega) (λ_=>hal) zB
 have hms:∀t:List Int,yB ⟨k,t,a++f,r3⟩= .agg [iA k,zC yA t,.sl false (a.map iA++f.map iA),zC yA r3]:=λt=>by
  rw[<-yAn];rfl
 rw[hms]at v1 v2;by_cases hok:r3=[]/\1<=v
 ·obtain⟨rfl,hv1⟩:=hok;have hff:=OY f;have hev:qQ v=[v]:=WR zB
  have hr2:r=[v]++(f.map qQ).flatten:=by
   rw[hsp2,hsp3,yA8];simp[hev]
  have hfn:f≠[]:=λh=>by
   rw[h]at hfl3;have:0<v.toNat*xX k:=Nat.mul_pos zB hg0;simp at hfl3;omega
  have e2:WU (vS k) (xX k) (v.toNat:Int) ⟨k,p.take 10,a++f,[]⟩=p:=by
   unfold WU;rw[yAc (λh=>by have:=h.2;rw[hal]at this;have h3:0<v.toNat*xX k:=Nat.mul_pos zB hg0;omega)]
   show(p.take 10++PN (vS k) (xX k) (v.toNat:Int) 0 (a++f))++([]++[])=p
   rw[zC0 _ _ _ zB f hfn a 0 zB,yEl hv0,yA8,yA8,<-hr2];exact hsp0.symm
  have hp200:¬(200<p.length∨p.length<10):=by
   have:=yBa List.length hr2;rw[yAf,yCl]at this;omega
  have e:OW (vS k) (xX k) p=some (a++f):=by
   rw[eD hp200,yAc zB,hnd];rfl
  rw[e];rw[e2]at v2;rw[show vmF (xX k) v.toNat ([]:List Int)=true from yAj ⟨rfl,.inr zB⟩]at v1;have heq:=qZ p
  show zN 71 [iA k,zC yA p] [] (.tup [yB ⟨k,p.take 10,a++f,[]⟩,iA 0]) []
  rw[hms];clear hsp0 hnb hsp hnc e eD hsp2 hnd evg hvg e2 hr2 hev hms hal hfl3 hsp3;generalize vS k=fx at *;generalize xX k=gr at *;refine eM call71 λF hF=>?_
  (have zc1:=c1;have zc2:=cf;have zc3:=c2;have zc4:=c3;have zc5:=c4;have zc6:=v1;have zc7:=v2;(repeat' (first|refine uP ?_|apply xM|apply xZ|intro hc|(refine zE ?_;first|(refine yK ?_;first|(refine uN [4,6,7] [0,1,4,5,6,7,93] Z ?_;(conv=>whnf);(try simp only[yBf,yAh]);refine kY tok Z Z Z Z Z Z (yC _ _ (λ_=>rfl)) Z Z Z zB Z ?_)|refine fI tok Z Z Z Z Z Z (yC _ _ (λ_=>rfl)) Z Z Z zB Z Z Z ?_))|fail))<;>clear zc1 zc2 zc3 zc4 zc5 zc6 zc7)
  exact zJ
 ·have e:OW (vS k) (xX k) p=none:=by
   by_cases h:200<p.length∨p.length<10
   ·exact yAd h
   ·rw[eD h];by_cases hv1:v<1
    ·rw[yAd (.inl hv1)]
    ·rw[yAc zB,hnd];exact yAc λh3=>hok ⟨h3,zB⟩
  rw[e]
  rw[show vmF (xX k) v.toNat r3=false from yAl (λh=>by
   rcases h with⟨h3,h4⟩
   exact hok ⟨yBb h3,zB⟩)]at v1
  show zN 71 [iA k,zC yA p] [] (.tup [yB ⟨0,[],[],[]⟩,iA 6]) []
  clear hsp0 hnb hsp hnc e eD hsp2 hnd evg hvg hms hal hfl3 hsp3 v2;generalize vS k=fx at *;generalize xX k=gr at *;refine eM call71 λF hF=>?_
  (have zc1:=c1;have zc2:=cf;have zc3:=c2;have zc4:=c3;have zc5:=c4;have zc6:=v1;(repeat' (first|refine uP ?_|apply xM|apply xZ|intro hc|(refine zE ?_;first|(refine yK ?_;first|(refine uN [4,6,7] [0,1,4,5,6,7,93] Z ?_;(conv=>whnf);(try simp only[yBf,yAh]);refine kY tok Z Z Z Z Z Z (yC _ _ (λ_=>rfl)) Z Z Z zB Z ?_)|refine fI tok Z Z Z Z Z Z (yC _ _ (λ_=>rfl)) Z Z Z zB Z Z Z ?_))|fail))<;>clear zc1 zc2 zc3 zc4 zc5 zc6)
  exact zJ
def zFf (l:List Rq) (q:Int) (hv:ZL l) (hq:¬(l.length:Int)<=q):zN 246 [zC yL l,iA q] [] (bA false) []:=by
 have hl:=zA yL l;have h4:=hv.n4;refine eM call246 λF hF=>?_
 refine WW ?_;exact zJ
def zFg (l:List Rq) (q id:Int) (v:Vh) (life:Int) (x:List Lg) (now:Int) (hv:ZL l) (hq:¬(l.length:Int)<=q):
  zN 245 [zC yL l,iA q,iA id,vQ v,iA life,zC xW x,iA now] [] (.tup [zC yL [],iA 1]) []:=by
 have c1:=zFf l q hv hq;refine eM call245 λF hF=>?_
 refine zV c1 ?_;exact zJ
def OZ {l:List Rq} {r x:Rq}:x∈ZE l r->x=r∨x∈l:=λh=>by
 unfold ZE at h
 rcases yAz.1 h with h|h
 ·exact .inr (yBy h)
 ·rcases yBt.1 h with h|h
  ·exact .inl h
  ·exact .inr (yBc h)
def zUe {l:List Rq} {q id life now:Int} {v:Vh} {x:List Lg} (hv:ZL l) (he:suE l q id life x=0) (v0:0<=v.id) (v1:v.id<=4294967295) (w0:0<=v.cls) (w1:v.cls<=3) (n0:0<=now) (n1:now<=1073741824):ZL (ZE l (aF id v life x now)):=by
 have h1:0<=id/\id<=4294967295/\1<=life/\life<=600/\vgF x=true:=by
  by_cases h:0<=id/\id<=4294967295/\1<=life/\life<=600/\vgF x=true
  ·exact h
  ·rw[suE,yAd h]at he;cases he
 rw[suE,yAc (λh=>h h1)]at he
 have hh:gF l id=false:=by
  cases h:gF l id with
  |false=>rfl
  |true=>rw[yAd h]at he;cases he
 rw[yAc (by rw[hh];decide)]at he;have hq:¬(q<=l.length∨4<=(l.length:Int)):=λh=>by rw[yAd h]at he;cases he
 have hno:∀r∈l,r.id≠id:=by simpa [gF]using hh
 have hle:=IY l id;refine⟨λr hr=>?_,?_,?_⟩
 ·rcases OZ hr with rfl|hr
  ·exact⟨h1.1,h1.2.1,v0,v1,w0,w1,by show 0<=now+life;omega,by show now+life<=2147483648;omega,h1.2.2.2.2⟩
  ·exact hv.ok r hr
 ·have hs:=hv.so;unfold ZE
  show((l.take (QI l id))++aF id v life x now::l.drop (QI l id)).Pairwise _
  rw[yEh,yEt];have hs2:=hs;rw[<-yC2 (QI l id) l,yEh]at hs2
  have hlo:∀y∈l.take (QI l id),y.id<id:=λy hy=>by
   obtain⟨i,hi,rfl⟩:=yEa.1 hy;rw[yAw]at hi;have:=zI5 (l:=l) (id:=id) (i:=i) zB;rw[List.getElem_take];simpa [List.getD,show i<l.length by omega]using this
  have hhi:∀y∈l.drop (QI l id),id<y.id:=λy hy=>by
   have hne:=hno y (yBc hy);by_cases hk:QI l id<l.length
   ·have h2:=zI6 hk;rw[yCw hk]at hy;have e:l.getD (QI l id) default=l[QI l id]:=by simp[List.getD,hk]
    rw[e]at h2
    rcases yBt.1 hy with rfl|hy
    ·omega
    ·have hs3:=hs2.2.1;rw[yCw hk,yEt]at hs3;have:=hs3.1 y hy;omega
   ·rw[yDr zB]at hy;cases hy
  refine⟨hs2.1,⟨hhi,hs2.2.1⟩,λa ha b hb=>?_⟩
  rcases yBt.1 hb with rfl|hb
  ·exact hlo a ha
  ·have:=hlo a ha;have:=hhi b hb;omega
 ·unfold ZE;rw[yAf,yAp,yAw,yA7]
  show min (QI l id) l.length+(l.length-QI l id+1)<=4
  omega
def zUf {now:Int} {g:Lg} {p:Int×Int} (hg:HB g=true) (h:okW now g p=true):HB (nwL now g p)=true:=by
 unfold HB at hg;unfold okW mwB at h;rw[yAm]at hg h;unfold HB nwL;rw[yAm];dsimp only;omega
theorem zC1 {now:Int}:∀(gs:List Lg) (w:List (Int×Int)) (pre pre':List Lg),pre'.map (·.jn)=pre.map (·.jn)->w.length=gs.length->(gs.zipWith (okW now) w).all id=true->eI pre gs=true->eI pre' (gs.zipWith (nwL now) w)=true
 | [],w,pre,pre',_,_,_,_=>by cases w<;>rfl
 |g::gs,[],pre,pre',_,hl,_,_=>by simp at hl
 |g::gs,p::w,pre,pre',hp,hl,ha,h=>by
  rw[yD2,yGj,yAs]at ha;rw[eI,yAs,yAs]at h;obtain⟨h1,h2,h3⟩:=h;rw[yD2,eI,yAs,yAs];refine⟨zUf h1 ha.1,?_,zC1 gs w (pre++[g]) (pre'++[nwL now g p]) (by rw[yAn,yAn,hp];rfl) DV ha.2 h3⟩;have e:∀l:List Lg,(l.any λy=>y.jn==g.jn)=(l.map (·.jn)).any (· ==g.jn):=λl=>by rw[List.any_map];rfl
  show(!(pre'.any λy=>y.jn==g.jn))=true
  rw[e,hp,<-e];exact h2
def zUg {l:List Rq} {id now:Int} {w:List (Int×Int)} (hv:ZL l) (he:aD l id w now=0):ZL (LP l id w now):=by
 have hh:gF l id=true:=by
  cases h:gF l id with
  |true=>rfl
  |false=>rw[aD,yAc (by rw[h];decide)]at he;cases he
 obtain⟨pre,x,post,hL,hx,_,hf,_⟩:=KL hh;rw[aD,yAd hh,hf]at he
 have hw:w.length=x.legs.length/\ET x.legs w now=true:=by
  by_cases h:w.length=x.legs.length/\ET x.legs w now=true
  ·exact h
  ·rw[yAc h]at he;cases he
 have hxo:=hv.ok x (by rw[hL];simp);rw[zC3 hL hv hx];have hs:=hv.so;have h4:=hv.n4;rw[hL]at hs h4;rw[yEh,yEt]at hs;refine⟨λr hr=>?_,?_,by simpa using h4⟩
 ·rw[yAz,yBt]at hr
  rcases hr with hr|rfl|hr
  ·exact hv.ok r (by rw[hL];simp[hr])
  ·refine⟨hxo.i0,hxo.i1,hxo.v0,hxo.v1,hxo.c0,hxo.c1,hxo.t0,hxo.t1,?_⟩;have h1:=HC hxo.lg
   have h2:eI [] x.legs=true:=by
    have:=hxo.lg;rw[vgF,yAs]at this;exact this.2
   unfold vgF;rw[yAs];exact⟨yAj (by rw[yEm];omega),zC1 x.legs w [] [] Z hw.1 hw.2 h2⟩
  ·exact hv.ok r (by rw[hL];simp[hr])
 ·rw[yEh,yEt];refine⟨hs.1,⟨hs.2.1.1,hs.2.1.2⟩,λa ha b hb=>?_⟩
  rcases yBt.1 hb with rfl|hb
  ·exact hs.2.2 a ha x zS
  ·exact hs.2.2 a ha b (by simp[hb])
def XX (l:List Tk):Nat->Int->List Int
 |0,_=>[]
 |n+1,s=>bif eV l s then s::XX l n (l.getD s.toNat default).par else []
def fH (l:List Tk) (k:Nat) (a:Int):XX l (k+1) a=bif eV l a then a::XX l k (l.getD a.toNat default).par else []:=rfl
def WX {l:List Tk} {s:Int} (h:eV l s=true):0<=s/\s<l.length:=by
 unfold eV at h;simp only[yAs,yAm]at h;exact h.1
theorem zIf {l:List Tk}:∀(n:Nat) (s x:Int),x∈XX l n s->eV l x=true
 |0,s,x,h=>by simp[XX]at h
 | n+1,s,x,h=>by
  unfold XX at h
  cases hu:eV l s<;>rw[hu]at h
  ·simp at h
  ·rw[yBx,yBt]at h
   rcases h with rfl|h
   ·exact hu
   ·exact zIf n _ x h
def zIg (l:List Tk) (s:Int):List (Nat×xO):=[(1003,.box [iA s]),(1004,.box [zC xB l])]
def zSf (l:List Tk) (s:Int):zN 207 [zC xB l,iA s] [] (.fn 225 [.ptr 1003 0 0,.ptr 1004 0 0]) (zIg l s):=by
 refine eM call207 λF hF=>?_
 repeat' (first|(refine zE ?_;first|refine uT (jC (v:=AV.sl _ _) 1004 Z Z) Z Z Z ?_|refine uT (jC (v:=AV.s _) 1003 Z Z) Z Z Z ?_|refine vF tok Z Z ?_|refine uQ ?_)|(first|refine xQ ?_|refine xE ?_|refine vG Z ?_|refine zX Z ?_|refine zU Z ?_|refine xK Z (λhc=>?_) λhc=>?_|refine xA ?_|refine yW ?_|refine xD ?_|refine yU ?_))
 exact zK [1003,1004] Z Z Z Z
def zIh (l:List Tk) (s:Int):aJ prog 225 [.ptr 1003 0 0,.ptr 1004 0 0] (zIg l s) ((XX l 8 s).map λx=>[iA x]):=by
 have hl:=zA xB l;refine dL func225 Z (λargs w=>call225 args w) Z Z Z (λF y hro hit hY=>?_);unfold zIg;refine WW ?_;refine xS (8) [1003,1004] [1003,1004] [0,2] [4,6,1000000,0,2] Z (λi T U zs=>∃(a:Int) (pre:List Int),(XX l 8 s=pre++XX l (8-i) a/\pre.length=i)/\zs=⟨(4,iA a)::(6,iA i)::(1000000,.gh i)::T,U⟩) ?_;(conv=>whnf);refine⟨?_,?_,?_⟩
 ·exact⟨s,[],⟨rfl,rfl⟩,rfl⟩
 ·rintro i st hi ⟨a,pre,⟨hp,hpl⟩,rfl⟩;have c:=zAx l a;obtain⟨k,hk⟩:∃k,8-i=k+1:=⟨7-i,zB⟩;rw[hk,fH l k a]at hp
  cases hu:eV l a<;>rw[hu]at c hp
  ·rw[yCg,yA8]at hp;refine zV c ?_;exact hG Z (.inl (by rw[yAe,hp,hpl]))
  ·rw[yBx]at hp;obtain⟨h0,h1⟩:=WX hu;have hy:=yN xB l a h0 h1;have hys:((XX l 8 s).map λx=>[iA x])[i]? =some [iA a]:=by rw[hp];simp[<-hpl]
   have hlen:i<((XX l 8 s).map λx=>[iA x]).length:=(yA5.1 hys).1;generalize ((XX l 8 s).map λx=>[iA x])=xs at *;have hp':XX l 8 s=(pre++[a])++XX l (8-(i+1)) (l.getD a.toNat default).par:=by rw[hp,show 8-(i+1)=k by omega];simp
   generalize l.getD a.toNat default=t at*
   (repeat' (first|refine uP ?_|apply xM|apply xZ|intro hc|(refine zE ?_;refine xT ?_;first|(first|(refine vR 226 ?_;first|refine yJ (zI (c) Z Z Z Z Z) Z ?_|refine uT (zI (c) Z Z Z Z Z) Z Z Z ?_|refine XF (zI (c) Z Z Z Z Z) Z Z Z ?_))|(refine KP ?_;refine US hit hY Z Z hys Z Z Z ?_ ?_))|(refine zE ?_;first|refine SM ?_)|fail))
   ·exact⟨t.par,pre++[a],⟨hp',by simp[hpl]⟩,rfl⟩
   ·exact hG Z (.inr zB)
 ·rintro st ⟨a,pre,⟨hp,hpl⟩,rfl⟩;rw[show XX l (8-8) a=[]from rfl,yA8]at hp;refine WW ?_;exact cK rfl (.inl (by rw[yAe,hp,hpl]))
def deF (l:List Tk) (s top:Int):Bool:=(XX l 8 s).any λa=>a==top
def zIi (l:List Tk) (s top:Int):zN 267 [zC xB l,iA s,iA top] [] (bA (deF l s top)) []:=by
 have c:=zSf l s;unfold zIg at c;refine eM call267 λF hF=>?_
 refine zV c ?_;refine wW hF (zIh l s) Z [5,6] [5,6] Z Z Z Z Z Z Z Z Z (λi ys h=>?_) (λ_=>[(5,.box [iA top]),(6,.box [.s (.bool false)])]) (λi=>∀x∈(XX l 8 s).take i,x≠top) (T:=[(5,.ptr 5 0 0),(6,.ptr 6 0 0)]) Z zS (λi ys y hys hI F1 h1 h2=>?_) (λhI=>?_)
 ·rw[yAi,yAq]at h;obtain⟨x,_,rfl⟩:=h;rfl
 ·rw[yAi,yAq]at hys;obtain⟨x,hx,rfl⟩:=hys
  show vZ _ F1 _ _ ⟨[(11,iA x),(5,.ptr 5 0 0),(6,.ptr 6 0 0)],[(5,.box [iA top]),(6,.box [.s (.bool false)])]⟩ _
  have hmem:x∈XX l 8 s:=yBp hx;refine WW ?_;refine⟨rfl,λF2 g1 g2=>?_⟩;by_cases ht:x=top
  ·have hd:deF l s top=true:=yB8.2 ⟨x,hmem,by simpa using ht⟩;rw[hd];refine WW ?_;exact zJ
  ·(refine WW ?_)
   refine⟨rfl,λz hz=>?_⟩;rw[yCt,hx]at hz;simp only[yFy,yAz,yBe]at hz
   rcases hz with hz|rfl
   ·exact hI z hz
   ·exact ht
 ·rw[yAe,yAh]at hI;have hd:deF l s top=false:=yDe.2 λx hx=>by simpa using hI x hx
  rw[hd];refine WW ?_;exact zJ
def zAu (l:List Tk) (now:Int) (j:Nat):Tk:=if(XX l 8 j).any (λa=>exF (l.getD a.toNat default) now)=true then frT else l.getD j default
def QU (l:List Tk) (now:Int) (s:Nat):List Tk:=(List.range l.length).map λj=>if j<s then zAu l now j else l.getD j default
def NA (l:List Tk) (now:Int):List Tk:=(List.range l.length).map (zAu l now)
def IR (l:List Tk) (now:Int) (s:Nat):(QU l now s).length=l.length:=by simp[QU]
def zIj (l:List Tk) (now:Int):QU l now 0=l:=by
 unfold QU;apply yBj;intro j;rw[yAi];by_cases h:j<l.length
 ·rw[yBg h];simp[List.getD,h]
 ·rw[yA1 wF,yA1 zB];rfl
def zO6 (l:List Tk) (now:Int):QU l now l.length=NA l now:=by
 unfold QU NA;apply yDt;intro j hj;rw[yA2]at hj;rw[yAd hj]
def zIk (l:List Tk) (now:Int) (s:Nat) (h:s<l.length):(QU l now s)[s]? =some (l.getD s default):=by
 unfold QU;rw[yAi,yBg h];simp
def zIl (l:List Tk) (now:Int) (s:Nat):QU l now (s+1)=(QU l now s).set s (zAu l now s):=by
 unfold QU;apply yBj;intro j;rw[yCn,yAi,yAi];by_cases h:j<l.length
 ·rw[yBg h];by_cases hs:s=j
  ·subst hs;simp[h]
  ·rw[yAc hs];by_cases hj:j<s
   ·simp[hj,show j<s+1 by omega]
   ·simp[hj,show¬j<s+1 by omega]
 ·rw[yA1 wF]
  split<;>simp;omega
theorem zIm (l:List Tk) (hb:FH l) (now:Int):zN 174 [zC xB l,iA now] [] (zC xB (NA l now)) []:=by
 have c:=VD l hb;have hn:=hb.n;have hll:=zA xB l;refine eM call174 λF hF=>?_
 refine zV c ?_;refine zO ((l.map xB).length) [1001,2,3,5] [2,3,5] [2,3,5,11,18] [12,2,3,5,11,18] Z (λi T U=>⟨(12,iA i)::T,(1001,.arr 6 ((QU l now i).map xB) false)::U⟩) ?_;(conv=>whnf);refine⟨by(rw[zIj];rfl),?_,?_⟩
 ·intro i hi;have hi':i<l.length:=by omega
  have c1:=zSf l i;unfold zIg at c1;have hy:((QU l now i).map xB)[i]? =some (xB (l.getD i default)):=by rw[yAi,zIk l now i hi'];rfl
  have es:=zIl l now i;have hif:=zAy;have hrl:i<((QU l now i).map xB).length:=by rw[yAe,IR];exact hi'
  refine zV c1 ?_
  refine wW hF (zIh l i) Z [2,3,5,6,1001] [2,3,5,6,11,12] Z Z Z Z Z Z Z Z Z (λk ys h=>?_) (λ_=>[(2,.box [zC xB l]),(3,.box [iA now]),(5,.box [.ref 1001 0 (l.map xB).length]),(6,.box [iA i]),(1001,.arr 6 ((QU l now i).map xB) false)]) (λk=>∀x∈(XX l 8 i).take k,exF (l.getD x.toNat default) now=false)
   (T:=[(2,.ptr 2 0 0),(3,.ptr 3 0 0),(5,.ptr 5 0 0),(6,.ptr 6 0 0),(11,iA (l.map xB).length),(12,iA i)]) Z zS (λk ys y hys hI F1 h1 h2=>?_) (λhI=>?_)
  ·rw[yAi,yAq]at h;obtain⟨x,_,rfl⟩:=h;rfl
  ·rw[yAi,yAq]at hys;obtain⟨x,hx,rfl⟩:=hys
   show vZ _ F1 _ _ ⟨[(18,iA x),(2,.ptr 2 0 0),(3,.ptr 3 0 0),(5,.ptr 5 0 0),(6,.ptr 6 0 0),(11,iA (l.map xB).length),(12,iA i)],[(2,.box [zC xB l]),(3,.box [iA now]),(5,.box [.ref 1001 0 (l.map xB).length]),(6,.box [iA i]),(1001,.arr 6 ((QU l now i).map xB) false)]⟩ _
   have hmem:x∈XX l 8 i:=yBp hx;obtain⟨b1,b2⟩:=WX (zIf _ _ _ hmem);have hy2:=yN xB l x b1 b2;have ce:=KM (l.getD x.toNat default) now;refine WW ?_;refine⟨rfl,λF2 g1 g2=>?_⟩
   cases he:exF (l.getD x.toNat default) now<;>rw[he]at ce
   ·(refine zV ce ?_)
    refine⟨rfl,λz hz=>?_⟩;rw[yCt,hx]at hz;simp only[yFy,yAz,yBe]at hz
    rcases hz with hz|rfl
    ·exact hI z hz
    ·exact he
   ·have e2:(QU l now (i+1)).map xB=((QU l now i).map xB).set i (xB frT):=by
     rw[es,zAu,yAd (yB8.2 ⟨x,hmem,he⟩),yCk]
    generalize (QU l now i).map xB=xs at *;generalize (QU l now (i+1)).map xB=ys at *;subst e2;refine yQ (wV ce hif) ?_;rfl
  ·rw[yAe,yAh]at hI
   have e2:(QU l now (i+1)).map xB=(QU l now i).map xB:=by
    rw[es,zAu,yAc (by simpa using hI)]
    congr 1
    have:=zIk l now i hi';rw[yA5]at this;obtain⟨h,e⟩:=this;rw[<-e,yFn]
   generalize (QU l now i).map xB=xs at *;generalize (QU l now (i+1)).map xB=ys at *;subst e2;refine WW ?_;rfl
 ·have hl2:(l.map xB).length=((QU l now l.length).map xB).length:=by simp[IR]
  rw[<-zO6];rw[hll]at *; refine WW ?_;exact zH [] Z Z (yBa (AV.sl false) (yAo (by simp[IR]))) Z
end Av
end Go.Proofs.YteajjdidebfcjaaGreat
