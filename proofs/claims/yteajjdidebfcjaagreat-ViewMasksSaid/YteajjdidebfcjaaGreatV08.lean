/- Part 8. -/
import Derived.Test.YteajjdidebfcjaaGreatV07
namespace Go.Proofs.YteajjdidebfcjaaGreat
namespace Av
open Tryz
set_option linter.all false
set_option maxRecDepth 4000
set_option maxHeartbeats 2000000
def enR:Nat->Int->List Int
 |0,n=>[n]
 |f+1,n=>if n<128 then [n]else(n % 128+128)::enR f (n/128)
def gW (n:Int):List Int:=enR 4 n
def zA9 {n:Int} {z:Nat} (h:n<128 ^ (z+1+1)):n/128<128 ^ (z+1):=Int.ediv_lt_of_lt_mul zV (by rw[yDr]at h;exact h)
def RL {f:Nat} {n:Int} (h:n<128):enR f n=[n]:=by
 cases f with
 |zero=>rfl
 |succ f=>exact zX3 h
def HL {f:Nat} {n:Int} (h:128<=n):enR (f+1) n=(n % 128+128)::enR f (n/128):=zX2 zB
def zQ5 (n:Int) (h0:0<=n) (h1:n<=4294967295):zO 136 [iA n] [] (.tup [zD yA (gW n),iA 0]) []:=by
 have cs:=EM n
 have hsz:1<=szF n:=by
  rw[zIk h0 h1];unfold lgF
  repeat' split
  all_goals omega
 generalize szF n=s at *;generalize hR:gW n=R;refine eM call136 λF hF=>?_
 refine zY cs ?_;refine xA 4 1001 1 Z Z Z ?_;refine gM (4) [1001] [] [] [0,4] Z (λzn T U zs=>∃(m:Int) (acc:List Int),(0<=m/\m<=4294967295/\m<128 ^ (zn+1)/\acc.length+zn=4/\acc++enR zn m=R)/\zs=⟨(0,iA m)::(4,.ref 1001 0 (acc.map yA).length)::T,(1001,.arr 1 (acc.map yA) true)::U⟩) ?_;(conv=>whnf);refine⟨?_,?_⟩
 ·exact⟨n,[],⟨h0,h1,by show n<34359738368;omega,rfl,hR⟩,rfl⟩
 ·rintro zn st ⟨m,acc,⟨q0,q1,q2,q3,q4⟩,rfl⟩;have hla:=zA yA acc;by_cases hm:128<=m
  ·obtain⟨z,rfl⟩:∃z,zn=z+1:=by
    cases zn with
    |zero=>exfalso;have:m<128:=q2;omega
    |succ z=>exact⟨z,rfl⟩
   rw[HL hm]at q4;have hd:=zA9 q2;have ht:m.tmod 128=m % 128:=zZq q0;have hmd:m.tdiv 128=m/128:=zZw q0;have hir:YH .i64 (m.tdiv 128):=⟨zB,zB⟩;clear q2;refine WW ?_;refine⟨z,zB,m.tdiv 128,acc++[m.tmod 128+128],⟨zB,zB,by rw[hmd];exact hd,by simp;omega,by rw[hmd,ht,zYw];exact q4⟩,?_⟩;rw[zYd];rfl
  ·rw[RL zB]at q4;clear q2;subst q4;refine WW ?_;refine zI [] Z Z ?_ Z
   show AV.tup [AV.sl false ((acc.map yA++[yA m]).take (acc.map yA++[yA m]).length),iA 0]=_
   rw[zX6];unfold zD;rw[zYd];rfl
def zPa {n:Int} (h0:0<=n) (h1:n<=4294967295):fH n 127=n % 128:=by
 obtain⟨a,rfl⟩:=zZz h0;unfold fH;rw[show BitVec.ofInt IntKind.i64.bits (a:Int)=BitVec.ofNat IntKind.i64.bits a from yBk ..];rw[show BitVec.ofInt IntKind.i64.bits (127:Int)=BitVec.ofNat IntKind.i64.bits 127 from Z];rw[BitVec.toNat_and,yBg,yBg,yAs (show a<2 ^ IntKind.i64.bits by show a<18446744073709551616;omega),yAs (show 127<2 ^ IntKind.i64.bits by decide)];have e:a &&& 127=a % 128:=Nat.and_two_pow_sub_one_eq_mod a 7;rw[e];exact kV (k:= .i64) (by unfold YH;omega)
def zWl:∀k:_root_.Fin 128,IntKind.u8.wrap (BitVec.ofInt IntKind.u8.bits (k.val:Int) ||| BitVec.ofInt IntKind.u8.bits 128).toNat=(k.val:Int)+128:=by decide +kernel
section
variable {P:Program} {tm:List (Nat×AV)} {h:List (Nat×xN)} {tx ty:Nat} {x y:Operand}
def zPb {m:Int} (hx:yM (zG tm) x= .s (.int .u8 m)) (hy:yM (zG tm) y= .s (.int .u8 128)) (h0:0<=m/\m<128):wV P ⟨tm,h⟩ (.binOp .or tx x y ty) (.s (.int .u8 (m+128))) [] [] []:=by
 have e:=zWl ⟨m.toNat,zB⟩;simp only[show((m.toNat:Nat):Int)=m by omega]at e;rw[<-e];exact IM hx hy
end
def zWm (n:Int) (h0:0<=n) (h1:n<=4294967295):zO 180 [iA n] [] (.tup [zD yA (gW n),iA 0]) []:=by
 generalize hR:gW n=R;refine eM call180 λF hF=>?_
 refine WW ?_;refine qH 11 Z ?_;refine gM (4) [11] [] [] [0,4] Z (λzn T U zs=>∃(m:Int) (acc:List Int),(0<=m/\m<=4294967295/\m<128 ^ (zn+1)/\acc.length+zn=4/\acc++enR zn m=R)/\zs=⟨(0,iA m)::(4,.ref 11 0 (acc.map yA).length)::T,(11,.arr 1 (acc.map yA) true)::U⟩) ?_;(conv=>whnf);refine⟨?_,?_⟩
 ·exact⟨n,[],⟨h0,h1,by show n<34359738368;omega,rfl,hR⟩,rfl⟩
 ·rintro zn st ⟨m,acc,⟨q0,q1,q2,q3,q4⟩,rfl⟩;have hla:=zA yA acc;by_cases hm:128<=m
  ·obtain⟨z,rfl⟩:∃z,zn=z+1:=by
    cases zn with
    |zero=>exfalso;have:m<128:=q2;omega
    |succ z=>exact⟨z,rfl⟩
   rw[HL hm]at q4;have hd:=zA9 q2;have ha:=zPa q0 q1;have hab:0<=fH m 127/\fH m 127<128:=by omega
   have hs:qG m 7=m/128:=zZ1 m zV;clear q2
   (repeat' (first|refine uJ ?_|apply xL|apply wB|intro hc|(refine zE ?_;first|(refine xM ?_;refine zP (zPb Z Z hab) Z ?_)|refine SM ?_)|fail))
   refine⟨z,zB,qG m 7,acc++[fH m 127+128],⟨zB,zB,by rw[hs];exact hd,by simp;omega,by rw[hs,ha,zYw];exact q4⟩,?_⟩;rw[zYd];rfl
  ·rw[RL zB]at q4;clear q2;subst q4;refine WW ?_;refine zI [] Z Z ?_ Z
   show AV.tup [AV.sl false ((acc.map yA++[yA m]).take (acc.map yA++[yA m]).length),iA 0]=_
   rw[zX6];unfold zD;rw[zYd];rfl
theorem CJ:∀(r:List Int) (i:Nat) (n:Int),BY r->i<=5->(XT r i n).2.2=0->∃q:Int,0<=q/\(XT r i n).1=n+q*128 ^ i/\(0<i->0<q)/\i<=4/\∃j:Nat,(XT r i n).2.1=((i+j:Nat):Int)/\enR (4-i) q=r.take j
 | [],i,n,_,_,h=>by exact absurd (show(6:Int)=0 from h) zV
 | x ::r,i,n,hb,h5,h=>by
  have hx:=hb x zW;by_cases hi:i=5
  ·exfalso;rw[XT,zX3 hi]at h;exact absurd (show(6:Int)=0 from h) zV
  by_cases hx1:128<=x
  ·have e:XT (x::r) i n=XT r (i+1) (n+x.tmod 128*128 ^ i):=by rw[XT,zX2 hi,zX3 hx1]
   rw[e]at h⊢;obtain⟨q,q0,q1,q2,q3,j,q4,q5⟩:=CJ r (i+1) _ (λy hy=>hb y (by simp[hy])) zB h;have ht:x.tmod 128=x % 128:=zZq hx.1;have hq:=q2 zB;refine⟨x.tmod 128+q*128,zB,?_,λ_=>by omega,zB,j+1,by rw[q4];omega,?_⟩
   ·rw[q1,yDr,Int.add_mul,Int.mul_assoc,Int.mul_comm 128,Int.add_assoc]
   ·obtain⟨f,hf⟩:∃f,4-i=f+1:=⟨3-i,zB⟩;rw[hf,HL zB,yDe,<-q5,show 4-(i+1)=f by omega]
    congr 1
    ·omega
    ·congr 1
     omega
  ·have hxm:x.tmod 128=x:=by rw[zZq hx.1];omega
   have e:XT (x::r) i n=if 4294967295<n+x.tmod 128*128 ^ i∨(0<i/\x=0)then(0,0,6)else(n+x.tmod 128*128 ^ i,(i:Int)+1,0):=by rw[XT,zX2 hi,zX2 hx1]
   rw[e]at h⊢;by_cases hbad:4294967295<n+x.tmod 128*128 ^ i∨(0<i/\x=0)
   ·rw[zX3 hbad]at h;exact absurd (show(6:Int)=0 from h) zV
   ·rw[zX2 hbad,hxm];refine⟨x,hx.1,rfl,λh0=>?_,zB,1,by show(i:Int)+1=_;omega,?_⟩
    ·have:x≠0:=λh=>hbad (.inr ⟨h0,h⟩)
     omega
    ·rw[RL zB];rfl
def zKm {b:List Int} (hb:BY b) (h:(bJ b).2.2=0):gW (bJ b).1=b.take (bJ b).2.1.toNat:=by
 obtain⟨q,_,q1,_,_,j,q4,q5⟩:=CJ b 0 0 hb zB h
 have e1:(bJ b).1=q:=by
  show(XT b 0 0).1=q
  rw[q1];simp
 have e2:(bJ b).2.1.toNat=j:=by
  show(XT b 0 0).2.1.toNat=j
  rw[q4];simp
 rw[e1,e2];exact q5
theorem gF:∀(n:Nat) (b l r:List Int),BY b->aH n b=some (l,r)->l.length=n/\BY r/\(∀x∈l,0<=x/\x<=4294967295)/\b=(l.map gW).flatten++r
 |0,b,l,r,hb,h=>by
  cases h;exact⟨rfl,hb,by simp,rfl⟩
 | n +1,b,l,r,hb,h=>by
  rw[aH]at h;by_cases he:(bJ b).2.2=0
  ·rw[zX3 he]at h
   rcases JY b hb with h0|⟨_,h2,h3,h4,h5⟩
   ·rw[h0]at he;exact absurd (show(6:Int)=0 from he) zV
   cases hn:aH n (b.drop (bJ b).2.1.toNat)with
   |none=>rw[hn]at h;cases h
   | some p=>
    obtain⟨l',r'⟩:=p;rw[hn]at h;cases h;obtain⟨g1,g2,g3,g4⟩:=gF n _ l' r (λy hy=>hb y (zY1 hy)) hn;refine⟨by simp[g1],g2,λx hx=>?_,?_⟩
    ·rcases zZg.1 hx with rfl|hx
     ·exact⟨h2,h3⟩
     ·exact g3 x hx
    ·rw[zZj,yAt,zKm hb he,zYw,<-g4,yBf]
  ·rw[zX2 he]at h;cases h
def CK (b:List Int) (n:Nat) (l r:List Int) (hb:BY b) (hbn:b.length<=100000) (hn:n<=1000) (hok:aH n b=some (l,r)):zO 104 [zD yA b,iA n] [] (.tup [.ref 1001 0 (l.map iA).length,zD yA r,bA true]) [(1001,.arr 1 (l.map iA) true)]:=by
 refine eM call104 λF hF=>?_
 (repeat' (first|refine uJ ?_|apply xL|apply wB|intro hc|(refine zE ?_;first|(refine eP ?_;refine bM 1001 tok Z Z Z Z Z Z Z Z Z Z Z Z Z zB zB Z Z Z ?_))|fail))
 refine qH 1001 Z ?_;refine xT (n) [1001] [] [13] [0,7,14,13] Z (λi T U zs=>∃acc c,(acc.length=i/\BY c/\c.length<=100000/\aH n b=nbG acc (aH (n-i) c))/\zs=⟨(0,zD yA c)::(7,.ref 1001 0 (acc.map iA).length)::(14,iA i)::T,(1001,.arr 1 (acc.map iA) true)::U⟩) ?_;(conv=>whnf);refine⟨?_,?_,?_⟩
 ·exact⟨[],b,⟨rfl,hb,hbn,by rw[JZ];rfl⟩,rfl⟩
 ·rintro i st hi ⟨acc,c,⟨q0,q1,q2,q3⟩,rfl⟩;have hd:=zWd c q1 q2;have hl:=zA yA c;have hla:=zA iA acc;rw[show n-i=(n-(i+1))+1 by omega]at q3
  rcases JY c q1 with h|⟨h1,h2,h3,h4,h5⟩
  ·rw[AZ (by rw[h];decide),hok]at q3;cases q3
  ·rw[zAa h1]at q3;rw[h1]at hd;have hbd:BY (c.drop (bJ c).2.1.toNat):=λy hy=>q1 y (zY1 hy)
   have hcd:(c.drop (bJ c).2.1.toNat).length<=100000:=by rw[zYv];omega
   clear h1;generalize (bJ c).1=v at *;generalize (bJ c).2.1=k at *;refine zY hd ?_;refine⟨acc++[v],c.drop k.toNat,⟨by simp[q0],hbd,hcd,q3⟩,?_⟩;rw[zYd];rfl
 ·rintro st ⟨acc,c,⟨q0,q1,q2,q3⟩,rfl⟩;rw[yAa,hok]at q3;have e:(l,r)=(acc++[],c):=yAh q3;rw[zY4]at e;cases e;refine WW ?_;exact zL [1001] rfl rfl rfl rfl
def qC (k:Int):Nat:=if k=2∨k=6 then 3 else if k=4 then 2 else if k=1∨k=9∨k=12 then 0 else 1
def wY (k:Int):Nat:=if k=6 then 4 else if k=7 then 2 else 0
def shA (fx gr:Nat):AV:= .agg [iA 10,iA fx,iA gr,iA (if gr=0 then 0 else 1),iA (if gr=0 then 0 else 3),iA 0]
def zFc (k:Int) (h0:1<=k) (h1:k<=12):zO 103 [iA k] [] (.tup [shA (qC k) (wY k),bA true]) []:=by
 obtain rfl|rfl|rfl|rfl|rfl|rfl|rfl|rfl|rfl|rfl|rfl|rfl:k=1∨k=2∨k=3∨k=4∨k=5∨k=6∨k=7∨k=8∨k=9∨k=10∨k=11∨k=12:=by omega
 all_goals (refine eM call103 λF hF=>?_)
 all_goals (refine WW ?_)
 all_goals exact zJ
def PL (fx gr:Nat) (p:List Int):Option (List Int):=
 if 200<p.length∨p.length<10 then none else match aH fx (p.drop 10)with
 |none=>none
 | some (a,r)=>if gr=0 then(if r=[]then some a else none)else match aH 1 r with
  |none=>none
  |some (c,r2)=>if c.getD 0 0<1∨3<c.getD 0 0 then none else match aH ((c.getD 0 0).toNat*gr) r2 with
   |none=>none
   |some (f,r3)=>if r3=[]then some (a++f)else none
def deT (k:Int) (tok:List Int):Option (List Int)->AV
 |none=> .tup [yF ⟨0,[],[],[]⟩,iA 6]
 |some a=> .tup [yF ⟨k,tok,a,[]⟩,iA 0]
theorem zKn (k:Int) (h0:1<=k) (h1:k<=12) (p:List Int) (hb:BY p) (hn:p.length<=100000):zO 69 [iA k,zD yA p] [] (deT k (p.take 10) (PL (qC k) (wY k) p)) []:=by
 have hl:=zA yA p;have c1:=zFc k h0 h1
 have hf:qC k<=3:=by
  unfold qC
  repeat' split
  all_goals omega
 have hg:wY k=0∨(2<=wY k/\wY k<=4):=by
  unfold wY
  repeat' split
  all_goals omega
 generalize qC k=fx at *;generalize wY k=gr at *;unfold shA at c1;by_cases hlen:200<p.length∨p.length<10
 ·rw[show PL fx gr p=none from zX3 hlen]
  show zO 69 [iA k,zD yA p] [] (.tup [yF ⟨0,[],[],[]⟩,iA 6]) []
  by_cases h2:200<p.length
  ·(refine eM call69 λF hF=>?_)
   refine zY c1 ?_;exact zJ
  ·have h3:=hlen.resolve_left h2;refine eM call69 λF hF=>?_
   refine zY c1 ?_;exact zJ
 have e0:PL fx gr p=_:=zX2 hlen;rw[e0];clear e0;have hbd:BY (p.drop 10):=λy hy=>hb y (zY1 hy)
 have hdl:(p.drop 10).length<=100000:=by rw[zYv];omega
 have c2:=XA (p.drop 10) fx hbd hdl zB
 cases hnb:aH fx (p.drop 10)with
 |none=>
  rw[hnb]at c2
  show zO 69 [iA k,zD yA p] [] (.tup [yF ⟨0,[],[],[]⟩,iA 6]) []
  unfold ME at c2;refine eM call69 λF hF=>?_
  refine yR (wZ c1 c2) ?_;exact zJ
 |some q=>
 obtain⟨a,r⟩:=q;obtain⟨ha,hbr,har,hsp⟩:=gF _ _ _ _ hbd hnb
 have hrl:r.length<=100000:=by
  have:=zY3 List.length hsp;rw[zX4]at this;omega
 have hlr:=zA yA r;have hla:=zA iA a;have k1:=wK (p.take 10) OV
 rcases hg with rfl|⟨g2,g4⟩
 ·rw[hnb]at c2;unfold ME at c2;dsimp only;rw[zX3 Z];by_cases hr:r=[]
  ·subst hr;have k2:=wK [] zW;rw[zX3 Z]
   show zO 69 [iA k,zD yA p] [] (.tup [yF ⟨k,p.take 10,a,[]⟩,iA 0]) []
   refine eM call69 λF hF=>?_
   refine yR (XU c1 c2 k1 k2) ?_;exact zJ
  ·have hr0:r.length≠0:=λh=>hr (zYz h)
   rw[zX2 hr]
   show zO 69 [iA k,zD yA p] [] (.tup [yF ⟨0,[],[],[]⟩,iA 6]) []
   refine eM call69 λF hF=>?_
   refine yR (wZ c1 c2) ?_;exact zJ
 have c2o:=CK (p.drop 10) fx a r hbd hdl zB hnb;have c3:=XA r 1 hbr hrl zB;clear c2;dsimp only;rw[zX2 zB]
 cases hnc:aH 1 r with
 |none=>
  rw[hnc]at c3;unfold ME at c3
  show zO 69 [iA k,zD yA p] [] (.tup [yF ⟨0,[],[],[]⟩,iA 6]) []
  refine eM call69 λF hF=>?_
  refine yR (fQ c1 c2o c3) ?_;exact zJ
 |some q2=>
 obtain⟨c,r2⟩:=q2;obtain⟨hc1,hbr2,hcr,hsp2⟩:=gF _ _ _ _ hbr hnc
 obtain⟨v,rfl⟩:∃v,c=[v]:=by
  cases c with
  |nil=>cases hc1
  |cons v c=>cases c with
   |nil=>exact⟨v,rfl⟩
   |cons w c=>simp at hc1
 have hrl2:r2.length<=100000:=by
  have:=zY3 List.length hsp2;rw[zX4]at this;omega
 rw[hnc]at c3;unfold ME at c3;dsimp only;rw[show [v].getD 0 0=v from Z];by_cases hv:v<1∨3<v
 ·rw[zX3 hv]
  show zO 69 [iA k,zD yA p] [] (.tup [yF ⟨0,[],[],[]⟩,iA 6]) []
  by_cases hv1:v<1
  ·(refine eM call69 λF hF=>?_)
   refine yR (fQ c1 c2o c3) ?_;exact zJ
  ·have hv2:=hv.resolve_left hv1;refine eM call69 λF hF=>?_
   refine yR (fQ c1 c2o c3) ?_;exact zJ
 rw[zX2 hv];have hvg:v.toNat*gr<=12:=zY9 (yAz (show v.toNat<=3 by omega) g4) zV;have evg:((v.toNat*gr:Nat):Int)=v*(gr:Int):=by rw[yCt,yB0 zB]
 have c4:=XA r2 (v.toNat*gr) hbr2 hrl2 zB;rw[evg]at c4;have hm:0<=v*(gr:Int)/\v*(gr:Int)<=12:=by rw[<-evg];omega
 clear evg
 cases hnd:aH (v.toNat*gr) r2 with
 |none=>
  rw[hnd]at c4;unfold ME at c4
  show zO 69 [iA k,zD yA p] [] (.tup [yF ⟨0,[],[],[]⟩,iA 6]) []
  refine eM call69 λF hF=>?_
  refine yR (XU c1 c2o c3 c4) ?_;exact zJ
 |some q3=>
 obtain⟨f,r3⟩:=q3;obtain⟨hfl,hbr3,hfr,hsp3⟩:=gF _ _ _ _ hbr2 hnd;have hlf:=zA iA f;have hlr3:=zA yA r3;rw[hnd]at c4;unfold ME at c4;dsimp only;by_cases hr:r3=[]
 ·subst hr;have k2:=wK [] zW;rw[zX3 Z]
  show zO 69 [iA k,zD yA p] [] (.tup [yF ⟨k,p.take 10,a++f,[]⟩,iA 0]) []
  refine eM call69 λF hF=>?_
  refine yR (zt6 c1 c2o c3 c4 k1 k2) ?_;refine zI [] Z Z ?_ Z
  show AV.tup [.agg [iA k,zD yA (p.take 10),.sl false ((a.map iA++f.map iA).take (a.map iA++f.map iA).length),zD yA []],iA 0]=_
  rw[zX6,<-zYd];rfl
 ·have hr0:r3.length≠0:=λh=>hr (zYz h)
  rw[zX2 hr]
  show zO 69 [iA k,zD yA p] [] (.tup [yF ⟨0,[],[],[]⟩,iA 6]) []
  refine eM call69 λF hF=>?_
  refine yR (XU c1 c2o c3 c4) ?_;exact zJ
def zBa (fx gr:Nat):AV:= .agg [iA fx,iA gr,iA (if gr=0 then 0 else 1),iA (if gr=0 then 0 else 3),iA 0]
def zBb (k:Int) (h0:1<=k) (h1:k<=12):zO 106 [iA k] [] (zBa (qC k) (wY k)) []:=by
 obtain rfl|rfl|rfl|rfl|rfl|rfl|rfl|rfl|rfl|rfl|rfl|rfl:k=1∨k=2∨k=3∨k=4∨k=5∨k=6∨k=7∨k=8∨k=9∨k=10∨k=11∨k=12:=by omega
 all_goals (refine eM call106 λF hF=>?_)
 all_goals (refine WW ?_)
 all_goals exact zJ
def VM (fx gr:Nat) (c:Int):Nat->List Int->List Int
 |_,[]=>[]
 |i,x::r=>(if i=fx/\gr≠0 then [c]else [])++(gW x++VM fx gr c (i+1) r)
def cP (fx gr:Nat) (c:Int) (m:Ms):List Int:=(m.tok++VM fx gr c 0 m.args)++((if gr≠0/\m.args.length=fx then [0]else [])++m.data)
theorem zDg:∀(f:Nat) (n:Int),1<=(enR f n).length/\(enR f n).length<=f+1
 |0,n=>by simp[enR]
 |f+1,n=>by
  have:=zDg f (n/128);rw[enR];split
  ·simp
  ·rw[zYh];omega
def hH (n:Int):1<=(gW n).length/\(gW n).length<=5:=zDg 4 n
theorem RM (k:Int) (h0:1<=k) (h1:k<=12) (m:Ms) (c:Nat) (hk:m.kind=k) (ht:m.tok.length=10) (hd:m.data.length<=100000) (ha:∀x∈m.args,0<=x/\x<=4294967295) (hn:m.args.length<=1000) (hc:wY k≠0->m.args.length=qC k+c*wY k) (hc3:c<=3):
  zO 99 [yF m] [] (zD yA (cP (qC k) (wY k) c m)) []:=by
 subst hk;have c1:=zBb m.kind h0 h1
 have hg:wY m.kind<=4:=by
  unfold wY
  repeat' split
  all_goals omega
 generalize qC m.kind=fx at *;generalize wY m.kind=gr at *;unfold zBa at c1;have hlt:=zA yA m.tok;have hla:=zA iA m.args;have hld:=zA yA m.data;unfold cP;generalize hT:m.tok++VM fx gr c 0 m.args=tot;refine eM call99 λF hF=>?_
 (have zc1:=c1;(repeat' (first|refine uJ ?_|apply xL|apply wB|intro hc|(refine zE ?_;first|(refine yD ?_;refine kR 1001 tok Z Z Z Z Z Z (zN _ _ (λ_=>rfl)) Z Z Z zB Z Z Z ?_))|fail))<;>clear zc1)
 refine qH 1001 Z ?_;refine kN (m.args) [1001,1,3] [1,3] [1,3,16,17] [4,18,1,3,16,17] Z (λi pre T U zs=>∃acc:List Int,(acc.length<=10+6*i/\∀post,m.args=pre++post->acc++VM fx gr c i post=tot)/\zs=⟨(4,.ref 1001 0 (acc.map yA).length)::(18,iA i)::T,(1001,.arr 1 (acc.map yA) true)::U⟩) ?_;(conv=>whnf);refine⟨?_,?_,?_⟩
 ·exact⟨m.tok,⟨zB,λpost h=>by rw[<-hT,h];rfl⟩,rfl⟩
 ·rintro i pre x post st hx hi ⟨acc,⟨q0,q1⟩,rfl⟩;have hy:=xQ iA hx hi;have hlt2:=yW hx hi;have hxr:=ha x (vF hx);have hla2:=zA yA acc;have he:=hH x;have c2:=zQ5 x hxr.1 hxr.2;have hle:=zA yA (gW x)
  have hpost:∀p,m.args=pre++[x]++p->p=post:=λp h=>by
   rw[hx,zYw]at h;simpa using h.symm
  have hT3:=q1 _ hx;clear q1 hT hx;by_cases hi2:i=fx/\gr≠0
  ·obtain⟨rfl,hg0⟩:=hi2;have hcl:=hc hg0
   have hq:(((m.args.map iA).length:Int)-(i:Int)).tdiv (gr:Int)=(c:Int):=by
    rw[hla,hcl,show(((i+c*gr:Nat):Int)-(i:Int))=(c:Int)*(gr:Int) by rw[yDa,yCt];omega];exact Int.mul_tdiv_cancel _ zB
   have hir:YH .i64 ((((m.args.map iA).length:Int)-(i:Int)).tdiv (gr:Int)):=by rw[hq];exact⟨zB,zB⟩
   have e:VM i gr c i (x::post)=[(c:Int)]++(gW x++VM i gr c (i+1) post):=by rw[VM,zX3 ⟨rfl,hg0⟩]
   rw[e]at hT3;clear e hcl hc;generalize gW x=ex at *;refine yR (wZ c1 c2) ?_;refine⟨acc++[(c:Int)]++ex,⟨by simp;omega,λp h=>by rw[hpost p h,<-hT3];simp⟩,?_⟩;rw[zYd,zYd,<-hq];rfl
  ·have e:VM fx gr c i (x::post)=gW x++VM fx gr c (i+1) post:=by rw[VM,zX2 hi2];rfl
   rw[e]at hT3;clear e hc;generalize gW x=ex at *;by_cases hif:i=fx
   ·have hg0:gr=0:=by
     by_cases h:gr=0
     ·exact h
     ·exact absurd ⟨hif,h⟩ hi2
    refine yR (wZ c1 c2) ?_;refine⟨acc++ex,⟨by simp;omega,λp h=>by rw[hpost p h,<-hT3];simp⟩,?_⟩;rw[zYd];rfl
   ·(refine yR (wZ c1 c2) ?_)
    refine⟨acc++ex,⟨by simp;omega,λp h=>by rw[hpost p h,<-hT3];simp⟩,?_⟩;rw[zYd];rfl
 ·rintro st ⟨acc,⟨q0,q1⟩,rfl⟩;have e:=q1 [] zW;rw[show VM fx gr c m.args.length []=[]from rfl,zY4]at e;subst e;have hla2:=zA yA acc;clear q1 hT hc;by_cases hz:gr≠0/\m.args.length=fx
  ·rw[zX3 hz];obtain⟨hz1,hz2⟩:=hz;refine WW ?_;refine zI [] Z Z ?_ Z
   show AV.sl false ((acc.map yA++[yA 0]++m.data.map yA).take (acc.map yA++[yA 0]++m.data.map yA).length)=_
   rw[zX6];unfold zD;rw[zYd,zYd,zYw];rfl
  ·rw[zX2 hz];by_cases hz1:gr=0
   ·(refine WW ?_)
    refine zI [] Z Z ?_ Z
    show AV.sl false ((acc.map yA++m.data.map yA).take (acc.map yA++m.data.map yA).length)=_
    rw[zX6];unfold zD;rw[zYd];rfl
   ·have hz2:m.args.length≠fx:=λh=>hz ⟨hz1,h⟩
    refine WW ?_;refine zI [] Z Z ?_ Z
    show AV.sl false ((acc.map yA++m.data.map yA).take (acc.map yA++m.data.map yA).length)=_
    rw[zX6];unfold zD;rw[zYd];rfl
def dQ (k:Int):zO 107 [iA k] [] (bA (decide (1<=k/\k<=12))) []:=by
 cases hb:decide (1<=k/\k<=12)with
 |false=>(rw[zYj]at hb;(refine eM call107 λF hF=>?_);((refine WW (I2 (λhc=>?_) λhc=>?_)));all_goals (first|exact zJ|exact zXO|exact BP))
 |true=>(rw[zX9]at hb;(refine eM call107 λF hF=>?_);((refine WW ?_));all_goals (first|exact zJ|exact zXO|exact BP))
def dA (k:Int):zO 199 [iA k] [] (bA (decide (1<=k/\k<=12))) []:=by
 cases hb:decide (1<=k/\k<=12)with
 |false=>(rw[zYj]at hb;(refine eM call199 λF hF=>?_);((refine WW (I2 (λhc=>?_) λhc=>?_)));all_goals (first|exact zJ|exact zXO|exact BP))
 |true=>(rw[zX9]at hb;(refine eM call199 λF hF=>?_);((refine WW ?_));all_goals (first|exact zJ|exact zXO|exact BP))
theorem zDh (fx gr:Nat) (c:Int):∀(l:List Int) (i:Nat),(VM fx gr c i l).length<=6*l.length
 | [],i=>by simp[VM]
 |x::r,i=>by
  have h1:=zDh fx gr c r (i+1);have h2:=hH x;rw[VM,zX4,zX4,zYh]
  have h3:(if i=fx/\gr≠0 then [c]else []).length<=1:=by split<;>simp
  omega
def vmF (gr c:Nat) (d:List Int):Bool:=decide (d.length=0/\(gr=0∨1<=c))
def zBc (k:Int):wY k=0∨wY k=2∨wY k=4:=by
 unfold wY
 repeat' split
 all_goals omega
def zBd (k:Int):qC k<=3:=by
 unfold qC
 repeat' split
 all_goals omega
theorem CM (k:Int) (h0:1<=k) (h1:k<=12) (m:Ms) (c:Nat) (hk:m.kind=k) (ht:m.tok.length=10) (hd:m.data.length<=100000) (ha:∀x∈m.args,0<=x/\x<=4294967295) (hc:m.args.length=qC k+c*wY k) (hc3:c<=3):
  zO 98 [yF m] [] (bA (vmF (wY k) c m.data)) []:=by
 have c1:=zBb k h0 h1;have c2:=dQ k;have hf:=zBd k;rw[zYa ⟨h0,h1⟩]at c2;have c3:=RM k h0 h1 m c hk ht hd ha (by have:=zBc k;rcases this with h|h|h<;>rw[h]at hc<;>omega) (λ_=>hc) hc3
 have hpl:(cP (qC k) (wY k) c m).length<=10+(6*m.args.length+(1+m.data.length)):=by
  have h1:=zDh (qC k) (wY k) c m.args 0
  have h3:(if wY k≠0/\m.args.length=qC k then [(0:Int)]else []).length<=1:=by split<;>simp
  unfold cP;rw[zX4,zX4,zX4];omega
 have hlp:=zA yA (cP (qC k) (wY k) c m);have hg:=zBc k;subst hk;generalize cP (qC m.kind) (wY m.kind) c m=pl at *;generalize qC m.kind=fx at *;generalize wY m.kind=gr at *;unfold zBa at c1;have hlt:=zA yA m.tok;have hla:=zA iA m.args;have hld:=zA yA m.data
 cases hb:vmF gr c m.data with
 | true=>
  unfold vmF at hb;rw[zX9]at hb;obtain⟨hb1,hb2⟩:=hb
  rcases hg with rfl|rfl|rfl
  ·rw[zX3 Z,zX3 Z]at c1;refine eM call98 λF hF=>?_
   refine yR (wZ c1 c2) ?_;refine yT (m.args) [1] [1] [1,97,98] [99,1,97,98] Z (λi pre T U=>⟨(99,iA i)::T,U⟩) ?_;(conv=>whnf);refine⟨by rfl,?_,?_⟩
   ·intro i pre x post hx hi;have hy:=xQ iA hx hi;have hlt2:=yW hx hi;have hxr:=ha x (vF hx);clear hx;refine WW ?_;rfl
   ·(refine zY c3 ?_)
    exact zJ
  all_goals
   rw[zX2 zV,zX2 zV]at c1;have hm2:(((m.args.map iA).length:Int)-(fx:Int)).tmod ((2:Nat):Int)=0:=by rw[zZq zB];omega
   have hm4:(((m.args.map iA).length:Int)-(fx:Int)).tmod ((4:Nat):Int)=(((m.args.map iA).length:Int)-(fx:Int)) % 4:=zZq zB;refine eM call98 λF hF=>?_
   refine yR (wZ c1 c2) ?_;refine yT (m.args) [1] [1] [1,97,98] [99,1,97,98] Z (λi pre T U=>⟨(99,iA i)::T,U⟩) ?_;(conv=>whnf);refine⟨by rfl,?_,?_⟩
   ·intro i pre x post hx hi;have hy:=xQ iA hx hi;have hlt2:=yW hx hi;have hxr:=ha x (vF hx);clear hx;refine WW ?_;rfl
   ·(refine zY c3 ?_)
    exact zJ
 | false=>
  unfold vmF at hb;rw[zYj]at hb
  rcases hg with rfl|rfl|rfl
  ·rw[zX3 Z,zX3 Z]at c1;have hd0:m.data.length≠0:=λh=>hb ⟨h,.inl Z⟩
   refine eM call98 λF hF=>?_
   refine yR (wZ c1 c2) ?_;exact zJ
  all_goals
   rw[zX2 zV,zX2 zV]at c1;have hm2:(((m.args.map iA).length:Int)-(fx:Int)).tmod ((2:Nat):Int)=0:=by rw[zZq zB];omega
   have hm4:(((m.args.map iA).length:Int)-(fx:Int)).tmod ((4:Nat):Int)=(((m.args.map iA).length:Int)-(fx:Int)) % 4:=zZq zB;by_cases hc1:1<=c
   ·have hd0:m.data.length≠0:=λh=>hb ⟨h,.inr hc1⟩
    refine eM call98 λF hF=>?_
    refine yR (wZ c1 c2) ?_;exact zJ
   ·(refine eM call98 λF hF=>?_)
    refine yR (wZ c1 c2) ?_;exact zJ
theorem TR:∀l:List Int,((l.map gW).flatten).length<=5*l.length
 | []=>by simp
 |x::l=>by
  have h1:=TR l;have h2:=hH x;rw[zZj,yAt,zX4,zYh];omega
theorem zDi (fx:Nat) (c:Int):∀(l:List Int) (i:Nat),VM fx 0 c i l=(l.map gW).flatten
 | [],i=>rfl
 |x::l,i=>by
  rw[VM,zDi fx c l (i+1),zX2 (λh=>h.2 Z)];rfl
theorem zKo (fx gr:Nat) (c:Int):∀(l:List Int) (i:Nat),fx<i->VM fx gr c i l=(l.map gW).flatten
 | [],i,_=>rfl
 |x::l,i,h=>by
  rw[VM,zKo fx gr c l (i+1) zB,zX2 (λh2=>by omega)];rfl
theorem zDj (fx gr:Nat) (c:Int) (hg:gr≠0) (f:List Int) (hf:f≠[]):∀(a:List Int) (i:Nat),i+a.length=fx->VM fx gr c i (a++f)=(a.map gW).flatten++([c]++(f.map gW).flatten)
 | [],i,h=>by
  cases f with
  |nil=>exact absurd Z hf
  |cons x f=>
   have hi:i=fx:=by simpa using h
   rw[yAm,VM,zX3 ⟨hi,hg⟩,zKo fx gr c f (i+1) zB];rfl
 |x::a,i,h=>by
  rw[yA0,VM,zDj fx gr c hg f hf a (i+1) (by rw[zYh]at h;omega),zX2 (λh2=>by rw[zYh]at h;omega),yAm,zZj,yAt,zYw]
theorem KL (k:Int) (h0:1<=k) (h1:k<=12) (p:List Int) (hb:BY p) (hn:p.length<=100000):zO 71 [iA k,zD yA p] [] (deT k (p.take 10) (PL (qC k) (wY k) p)) []:=by
 have hl:=zA yA p;have c1:=zBb k h0 h1;have cf:=dQ k;rw[zYa ⟨h0,h1⟩]at cf;have hf:=zBd k;have hg:=zBc k;by_cases hlen:p.length<10
 ·rw[show PL (qC k) (wY k) p=none from zX3 (.inr hlen)]
  show zO 71 [iA k,zD yA p] [] (.tup [yF ⟨0,[],[],[]⟩,iA 6]) []
  unfold zBa at c1;refine eM call71 λF hF=>?_
  refine yR (wZ c1 cf) ?_;exact zJ
 have hbd:BY (p.drop 10):=λy hy=>hb y (zY1 hy)
 have hdl:(p.drop 10).length<=100000:=by rw[zYv];omega
 have htl:((p.take 10).map yA).length=10:=by rw[zX5,zYn];omega
 have htl2:((p.take (10:Int).toNat).map yA).length=10:=htl;have c2:=fF (p.drop 10) (qC k) hbd hdl zB
 cases hnb:aH (qC k) (p.drop 10)with
 | none=>
  have e:PL (qC k) (wY k) p=none:=by
   unfold PL;rw[hnb]
   split<;>rfl
  rw[e];rw[hnb]at c2
  show zO 71 [iA k,zD yA p] [] (.tup [yF ⟨0,[],[],[]⟩,iA 6]) []
  unfold ME at c2;unfold zBa at c1;refine eM call71 λF hF=>?_
  (have zc1:=c1;have zc2:=cf;have zc3:=c2;(repeat' (first|refine uJ ?_|apply xL|apply wB|intro hc|(refine zE ?_;first|(refine yD ?_;refine uE tok Z Z Z Z Z Z (zN _ _ (λ_=>rfl)) Z Z Z zB Z Z Z ?_))|fail))<;>clear zc1 zc2 zc3)
  exact zJ
 |some q=>
 obtain⟨a,r⟩:=q;obtain⟨ha,hbr,har,hsp⟩:=gF _ _ _ _ hbd hnb;have hfl:=TR a
 have hpl:p.length=10+(((a.map gW).flatten).length+r.length):=by
  have:=zY3 List.length hsp;rw[zX4,zYv]at this;omega
 have hsp0:p=p.take 10++((a.map gW).flatten++r):=by rw[<-hsp,yBf]
 have hlr:=zA yA r;have hla:=zA iA a;have hrl:r.length<=100000:=by omega
 rw[hnb]at c2;unfold ME at c2
 rcases Nat.eq_zero_or_pos (wY k)with hg0|hg0
 ·have v1:=CM k h0 h1 ⟨k,p.take 10,a,r⟩ 0 Z OV hrl har (by rw[hg0];exact ha) zB;have v2:=RM k h0 h1 ⟨k,p.take 10,a,r⟩ 0 Z OV hrl har (by show a.length<=1000;omega) (λh=>absurd hg0 h) zB;rw[hg0]at v1 v2 c1⊢;unfold zBa at c1;by_cases hr:r=[]
  ·subst hr
   have e:PL (qC k) 0 p=some a:=by
    unfold PL;rw[zX2 (by rw[zZc]at hpl;omega),hnb];rfl
   have e2:cP (qC k) 0 0 ⟨k,p.take 10,a,[]⟩=p:=by
    unfold cP;rw[zDi]
    conv=>rhs;rw[hsp0]
    simp
   rw[e];rw[show((0:Nat):Int)=0 from Z,e2]at v2;rw[show vmF 0 0 ([]:List Int)=true from Z]at v1;have heq:=bW p;clear e2 hsp0 hnb hsp
   show zO 71 [iA k,zD yA p] [] (.tup [yF ⟨k,p.take 10,a,[]⟩,iA 0]) []
   generalize qC k=fx at *;refine eM call71 λF hF=>?_
   (have zc1:=c1;have zc2:=cf;have zc3:=c2;have zc4:=v1;have zc5:=v2;(repeat' (first|refine uJ ?_|apply xL|apply wB|intro hc|(refine zE ?_;first|(refine yD ?_;first|(refine wJ [4,6,7] [0,1,4,5,6,7,93] Z ?_;(conv=>whnf);(try simp only[zYq,zX6]);refine vA tok Z Z Z Z Z Z (zN _ _ (λ_=>rfl)) Z Z Z zB Z ?_)|refine uE tok Z Z Z Z Z Z (zN _ _ (λ_=>rfl)) Z Z Z zB Z Z Z ?_))|fail))<;>clear zc1 zc2 zc3 zc4 zc5)
   exact zJ
  ·have hr0:r.length≠0:=λh=>hr (zYz h)
   have e:PL (qC k) 0 p=none:=by
    unfold PL;rw[hnb];split
    ·rfl
    ·show(if(0:Nat)=0 then(if r=[]then some a else none)else _)=none
     rw[zX3 Z,zX2 hr]
   rw[e];rw[show vmF 0 0 r=false from zYb (λh=>hr0 h.1)]at v1;clear v2 hsp0 hnb hsp
   show zO 71 [iA k,zD yA p] [] (.tup [yF ⟨0,[],[],[]⟩,iA 6]) []
   generalize qC k=fx at *;refine eM call71 λF hF=>?_
   (have zc1:=c1;have zc2:=cf;have zc3:=c2;have zc4:=v1;(repeat' (first|refine uJ ?_|apply xL|apply wB|intro hc|(refine zE ?_;first|(refine yD ?_;first|(refine wJ [4,6,7] [0,1,4,5,6,7,93] Z ?_;(conv=>whnf);(try simp only[zYq,zX6]);refine vA tok Z Z Z Z Z Z (zN _ _ (λ_=>rfl)) Z Z Z zB Z ?_)|refine uE tok Z Z Z Z Z Z (zN _ _ (λ_=>rfl)) Z Z Z zB Z Z Z ?_))|fail))<;>clear zc1 zc2 zc3 zc4)
   exact zJ
 have hg4:wY k<=4:=by omega
 have c3:=fF r 1 hbr hrl zB;unfold zBa at c1;rw[zX2 zB,zX2 zB]at c1
 cases hnc:aH 1 r with
 | none=>
  have e:PL (qC k) (wY k) p=none:=by
   unfold PL;rw[hnb];split
   ·rfl
   ·show(if wY k=0 then _ else match aH 1 r with|none=>none|some (c,r2)=>_)=none
    rw[zX2 zB,hnc]
  rw[e];rw[hnc]at c3;unfold ME at c3
  show zO 71 [iA k,zD yA p] [] (.tup [yF ⟨0,[],[],[]⟩,iA 6]) []
  clear hsp0 hnb hsp hnc e;generalize qC k=fx at *;generalize wY k=gr at *;refine eM call71 λF hF=>?_
  (have zc1:=c1;have zc2:=cf;have zc3:=c2;have zc4:=c3;(repeat' (first|refine uJ ?_|apply xL|apply wB|intro hc|(refine zE ?_;first|(refine yD ?_;first|(refine wJ [4,6,7] [0,1,4,5,6,7,93] Z ?_;(conv=>whnf);(try simp only[zYq,zX6]);refine vA tok Z Z Z Z Z Z (zN _ _ (λ_=>rfl)) Z Z Z zB Z ?_)|refine uE tok Z Z Z Z Z Z (zN _ _ (λ_=>rfl)) Z Z Z zB Z Z Z ?_))|fail))<;>clear zc1 zc2 zc3 zc4)
  exact zJ
 |some q2=>
 obtain⟨c,r2⟩:=q2;obtain⟨hc1,hbr2,hcr,hsp2⟩:=gF _ _ _ _ hbr hnc
 obtain⟨v,rfl⟩:∃v,c=[v]:=by
  cases c with
  |nil=>cases hc1
  |cons v c=>cases c with
   |nil=>exact⟨v,rfl⟩
   |cons w c=>simp at hc1
 have hv0:=(hcr v zW).1
 have hrl2:r2.length<=100000:=by
  have:=zY3 List.length hsp2;rw[zX4]at this;omega
 rw[hnc]at c3;unfold ME at c3
 have eD:¬(200<p.length∨p.length<10)->PL (qC k) (wY k) p=if v<1∨3<v then none else match aH (v.toNat*wY k) r2 with
   |none=>none
   |some (f,r3)=>if r3=[]then some (a++f)else none:=λh=>by
  unfold PL;rw[zX2 h,hnb]
  show(if wY k=0 then _ else match aH 1 r with|none=>none|some (c,r2)=>_)=_
  rw[zX2 zB,hnc];rfl
 by_cases hv3:3<v
 ·have e:PL (qC k) (wY k) p=none:=by
   by_cases h:200<p.length∨p.length<10
   ·exact zX3 h
   ·rw[eD h,zX3 (.inr hv3)]
  rw[e]
  show zO 71 [iA k,zD yA p] [] (.tup [yF ⟨0,[],[],[]⟩,iA 6]) []
  clear hsp0 hnb hsp hnc e eD hsp2;generalize qC k=fx at *;generalize wY k=gr at *;refine eM call71 λF hF=>?_
  (have zc1:=c1;have zc2:=cf;have zc3:=c2;have zc4:=c3;(repeat' (first|refine uJ ?_|apply xL|apply wB|intro hc|(refine zE ?_;first|(refine yD ?_;first|(refine wJ [4,6,7] [0,1,4,5,6,7,93] Z ?_;(conv=>whnf);(try simp only[zYq,zX6]);refine vA tok Z Z Z Z Z Z (zN _ _ (λ_=>rfl)) Z Z Z zB Z ?_)|refine uE tok Z Z Z Z Z Z (zN _ _ (λ_=>rfl)) Z Z Z zB Z Z Z ?_))|fail))<;>clear zc1 zc2 zc3 zc4)
  exact zJ
 have hvg:v.toNat*wY k<=12:=zY9 (yAz (show v.toNat<=3 by omega) hg4) zV;have evg:((v.toNat*wY k:Nat):Int)=v*(wY k:Int):=by rw[yCt,yB0 zB]
 have c4:=fF r2 (v.toNat*wY k) hbr2 hrl2 zB;have hm:0<=v*(wY k:Int)/\v*(wY k:Int)<=12:=by rw[<-evg];omega
 cases hnd:aH (v.toNat*wY k) r2 with
 | none=>
  have e:PL (qC k) (wY k) p=none:=by
   by_cases h:200<p.length∨p.length<10
   ·exact zX3 h
   ·rw[eD h,hnd]
    split<;>rfl
  rw[e];rw[hnd,evg]at c4;unfold ME at c4
  show zO 71 [iA k,zD yA p] [] (.tup [yF ⟨0,[],[],[]⟩,iA 6]) []
  clear hsp0 hnb hsp hnc e eD hsp2 hnd evg hvg;generalize qC k=fx at *;generalize wY k=gr at *;refine eM call71 λF hF=>?_
  (have zc1:=c1;have zc2:=cf;have zc3:=c2;have zc4:=c3;have zc5:=c4;(repeat' (first|refine uJ ?_|apply xL|apply wB|intro hc|(refine zE ?_;first|(refine yD ?_;first|(refine wJ [4,6,7] [0,1,4,5,6,7,93] Z ?_;(conv=>whnf);(try simp only[zYq,zX6]);refine vA tok Z Z Z Z Z Z (zN _ _ (λ_=>rfl)) Z Z Z zB Z ?_)|refine uE tok Z Z Z Z Z Z (zN _ _ (λ_=>rfl)) Z Z Z zB Z Z Z ?_))|fail))<;>clear zc1 zc2 zc3 zc4 zc5)
  exact zJ
 |some q3=>
 obtain⟨f,r3⟩:=q3;obtain⟨hfl3,hbr3,hfr,hsp3⟩:=gF _ _ _ _ hbr2 hnd;have hlf:=zA iA f;have hf12:f.length<=12:=by omega
 have hlr3:=zA yA r3
 have hrl3:r3.length<=100000:=by
  have:=zY3 List.length hsp3;rw[zX4]at this;omega
 rw[hnd,evg]at c4;unfold ME at c4;have hal:(a++f).length=qC k+v.toNat*wY k:=by rw[zX4,ha,hfl3]
 have har2:∀x∈a++f,0<=x/\x<=4294967295:=λx hx=>by
  rcases zYy.1 hx with h|h
  ·exact har x h
  ·exact hfr x h
 have v1:=CM k h0 h1 ⟨k,p.take 10,a++f,r3⟩ v.toNat Z OV hrl3 har2 hal zB;have v2:=RM k h0 h1 ⟨k,p.take 10,a++f,r3⟩ v.toNat Z OV hrl3 har2 (by show(a++f).length<=1000;omega) (λ_=>hal) zB
 have hms:∀t:List Int,yF ⟨k,t,a++f,r3⟩= .agg [iA k,zD yA t,.sl false (a.map iA++f.map iA),zD yA r3]:=λt=>by
  rw[<-zYd];rfl
 rw[hms]at v1 v2;by_cases hok:r3=[]/\1<=v
 ·obtain⟨rfl,hv1⟩:=hok;have hff:=TR f;have hev:gW v=[v]:=RL zB
  have hr2:r=[v]++(f.map gW).flatten:=by
   rw[hsp2,hsp3,zY4];simp[hev]
  have hfn:f≠[]:=λh=>by
   rw[h]at hfl3;have:0<v.toNat*wY k:=Nat.mul_pos zB hg0;simp at hfl3;omega
  have e2:cP (qC k) (wY k) (v.toNat:Int) ⟨k,p.take 10,a++f,[]⟩=p:=by
   unfold cP;rw[zX2 (λh=>by have:=h.2;rw[hal]at this;have h3:0<v.toNat*wY k:=Nat.mul_pos zB hg0;omega)]
   show(p.take 10++VM (qC k) (wY k) (v.toNat:Int) 0 (a++f))++([]++[])=p
   rw[zDj _ _ _ zB f hfn a 0 zB,yB0 hv0,zY4,zY4,<-hr2];exact hsp0.symm
  have hp200:¬(200<p.length∨p.length<10):=by
   have:=zY3 List.length hr2;rw[zX4,yAk]at this;omega
  have e:PL (qC k) (wY k) p=some (a++f):=by
   rw[eD hp200,zX2 zB,hnd];rfl
  rw[e];rw[e2]at v2;rw[show vmF (wY k) v.toNat ([]:List Int)=true from zYa ⟨rfl,.inr zB⟩]at v1;have heq:=bW p
  show zO 71 [iA k,zD yA p] [] (.tup [yF ⟨k,p.take 10,a++f,[]⟩,iA 0]) []
  rw[hms];clear hsp0 hnb hsp hnc e eD hsp2 hnd evg hvg e2 hr2 hev hms hal hfl3 hsp3;generalize qC k=fx at *;generalize wY k=gr at *;refine eM call71 λF hF=>?_
  (have zc1:=c1;have zc2:=cf;have zc3:=c2;have zc4:=c3;have zc5:=c4;have zc6:=v1;have zc7:=v2;(repeat' (first|refine uJ ?_|apply xL|apply wB|intro hc|(refine zE ?_;first|(refine yD ?_;first|(refine wJ [4,6,7] [0,1,4,5,6,7,93] Z ?_;(conv=>whnf);(try simp only[zYq,zX6]);refine vA tok Z Z Z Z Z Z (zN _ _ (λ_=>rfl)) Z Z Z zB Z ?_)|refine uE tok Z Z Z Z Z Z (zN _ _ (λ_=>rfl)) Z Z Z zB Z Z Z ?_))|fail))<;>clear zc1 zc2 zc3 zc4 zc5 zc6 zc7)
  exact zJ
 ·have e:PL (qC k) (wY k) p=none:=by
   by_cases h:200<p.length∨p.length<10
   ·exact zX3 h
   ·rw[eD h];by_cases hv1:v<1
    ·rw[zX3 (.inl hv1)]
    ·rw[zX2 zB,hnd];exact zX2 λh3=>hok ⟨h3,zB⟩
  rw[e]
  rw[show vmF (wY k) v.toNat r3=false from zYb (λh=>by
   rcases h with⟨h3,h4⟩
   exact hok ⟨zYz h3,zB⟩)]at v1
  show zO 71 [iA k,zD yA p] [] (.tup [yF ⟨0,[],[],[]⟩,iA 6]) []
  clear hsp0 hnb hsp hnc e eD hsp2 hnd evg hvg hms hal hfl3 hsp3 v2;generalize qC k=fx at *;generalize wY k=gr at *;refine eM call71 λF hF=>?_
  (have zc1:=c1;have zc2:=cf;have zc3:=c2;have zc4:=c3;have zc5:=c4;have zc6:=v1;(repeat' (first|refine uJ ?_|apply xL|apply wB|intro hc|(refine zE ?_;first|(refine yD ?_;first|(refine wJ [4,6,7] [0,1,4,5,6,7,93] Z ?_;(conv=>whnf);(try simp only[zYq,zX6]);refine vA tok Z Z Z Z Z Z (zN _ _ (λ_=>rfl)) Z Z Z zB Z ?_)|refine uE tok Z Z Z Z Z Z (zN _ _ (λ_=>rfl)) Z Z Z zB Z Z Z ?_))|fail))<;>clear zc1 zc2 zc3 zc4 zc5 zc6)
  exact zJ
def zFd (l:List Rq) (q:Int) (hv:ZN l) (hq:¬(l.length:Int)<=q):zO 246 [zD yL l,iA q] [] (bA false) []:=by
 have hl:=zA yL l;have h4:=hv.n4;refine eM call246 λF hF=>?_
 refine WW ?_;exact zJ
def zFe (l:List Rq) (q id:Int) (v:Vh) (life:Int) (x:List Lg) (now:Int) (hv:ZN l) (hq:¬(l.length:Int)<=q):
  zO 245 [zD yL l,iA q,iA id,vY v,iA life,zD xW x,iA now] [] (.tup [zD yL [],iA 1]) []:=by
 have c1:=zFd l q hv hq;refine eM call245 λF hF=>?_
 refine zY c1 ?_;exact zJ
def NM {l:List Rq} {r x:Rq}:x∈ZI l r->x=r∨x∈l:=λh=>by
 unfold ZI at h
 rcases zYy.1 h with h|h
 ·exact .inr (zZl h)
 ·rcases zZg.1 h with h|h
  ·exact .inl h
  ·exact .inr (zY1 h)
def zT9 {l:List Rq} {q id life now:Int} {v:Vh} {x:List Lg} (hv:ZN l) (he:suE l q id life x=0) (v0:0<=v.id) (v1:v.id<=4294967295) (w0:0<=v.cls) (w1:v.cls<=3) (n0:0<=now) (n1:now<=1073741824):ZN (ZI l (aL id v life x now)):=by
 have h1:0<=id/\id<=4294967295/\1<=life/\life<=600/\vgF x=true:=by
  by_cases h:0<=id/\id<=4294967295/\1<=life/\life<=600/\vgF x=true
  ·exact h
  ·rw[suE,zX3 h]at he;cases he
 rw[suE,zX2 (λh=>h h1)]at he
 have hh:gY l id=false:=by
  cases h:gY l id with
  |false=>rfl
  |true=>rw[zX3 h]at he;cases he
 rw[zX2 (by rw[hh];decide)]at he;have hq:¬(q<=l.length∨4<=(l.length:Int)):=λh=>by rw[zX3 h]at he;cases he
 have hno:∀r∈l,r.id≠id:=by simpa [gY]using hh
 have hle:=IC l id;refine⟨λr hr=>?_,?_,?_⟩
 ·rcases NM hr with rfl|hr
  ·exact⟨h1.1,h1.2.1,v0,v1,w0,w1,by show 0<=now+life;omega,by show now+life<=2147483648;omega,h1.2.2.2.2⟩
  ·exact hv.ok r hr
 ·have hs:=hv.so;unfold ZI
  show((l.take (RW l id))++aL id v life x now::l.drop (RW l id)).Pairwise _
  rw[yCa,yCi];have hs2:=hs;rw[<-yBf (RW l id) l,yCa]at hs2
  have hlo:∀y∈l.take (RW l id),y.id<id:=λy hy=>by
   obtain⟨i,hi,rfl⟩:=yBy.1 hy;rw[zYn]at hi;have:=zI2 (l:=l) (id:=id) (i:=i) zB;rw[List.getElem_take];simpa [List.getD,show i<l.length by omega]using this
  have hhi:∀y∈l.drop (RW l id),id<y.id:=λy hy=>by
   have hne:=hno y (zY1 hy);by_cases hk:RW l id<l.length
   ·have h2:=zI3 hk;rw[yAe hk]at hy;have e:l.getD (RW l id) default=l[RW l id]:=by simp[List.getD,hk]
    rw[e]at h2
    rcases zZg.1 hy with rfl|hy
    ·omega
    ·have hs3:=hs2.2.1;rw[yAe hk,yCi]at hs3;have:=hs3.1 y hy;omega
   ·rw[yBq zB]at hy;cases hy
  refine⟨hs2.1,⟨hhi,hs2.2.1⟩,λa ha b hb=>?_⟩
  rcases zZg.1 hb with rfl|hb
  ·exact hlo a ha
  ·have:=hlo a ha;have:=hhi b hb;omega
 ·unfold ZI;rw[zX4,zYh,zYn,zYv]
  show min (RW l id) l.length+(l.length-RW l id+1)<=4
  omega
def zUa {now:Int} {g:Lg} {p:Int×Int} (hg:IF g=true) (h:okW now g p=true):IF (nwL now g p)=true:=by
 unfold IF at hg;unfold okW mwB at h;rw[zX9]at hg h;unfold IF nwL;rw[zX9];dsimp only;omega
theorem zDk {now:Int}:∀(gs:List Lg) (w:List (Int×Int)) (pre pre':List Lg),pre'.map (·.jn)=pre.map (·.jn)->w.length=gs.length->(gs.zipWith (okW now) w).all id=true->dF pre gs=true->dF pre' (gs.zipWith (nwL now) w)=true
 | [],w,pre,pre',_,_,_,_=>by cases w<;>rfl
 |g::gs,[],pre,pre',_,hl,_,_=>by simp at hl
 |g::gs,p::w,pre,pre',hp,hl,ha,h=>by
  rw[yBr,yD4,zYg]at ha;rw[dF,zYg,zYg]at h;obtain⟨h1,h2,h3⟩:=h;rw[yBr,dF,zYg,zYg];refine⟨zUa h1 ha.1,?_,zDk gs w (pre++[g]) (pre'++[nwL now g p]) (by rw[zYd,zYd,hp];rfl) DL ha.2 h3⟩;have e:∀l:List Lg,(l.any λy=>y.jn==g.jn)=(l.map (·.jn)).any (· ==g.jn):=λl=>by rw[List.any_map];rfl
  show(!(pre'.any λy=>y.jn==g.jn))=true
  rw[e,hp,<-e];exact h2
def zUb {l:List Rq} {id now:Int} {w:List (Int×Int)} (hv:ZN l) (he:aK l id w now=0):ZN (MS l id w now):=by
 have hh:gY l id=true:=by
  cases h:gY l id with
  |true=>rfl
  |false=>rw[aK,zX2 (by rw[h];decide)]at he;cases he
 obtain⟨pre,x,post,hL,hx,_,hf,_⟩:=LQ hh;rw[aK,zX3 hh,hf]at he
 have hw:w.length=x.legs.length/\EL x.legs w now=true:=by
  by_cases h:w.length=x.legs.length/\EL x.legs w now=true
  ·exact h
  ·rw[zX2 h]at he;cases he
 have hxo:=hv.ok x (by rw[hL];simp);rw[zCm hL hv hx];have hs:=hv.so;have h4:=hv.n4;rw[hL]at hs h4;rw[yCa,yCi]at hs;refine⟨λr hr=>?_,?_,by simpa using h4⟩
 ·rw[zYy,zZg]at hr
  rcases hr with hr|rfl|hr
  ·exact hv.ok r (by rw[hL];simp[hr])
  ·refine⟨hxo.i0,hxo.i1,hxo.v0,hxo.v1,hxo.c0,hxo.c1,hxo.t0,hxo.t1,?_⟩;have h1:=IG hxo.lg
   have h2:dF [] x.legs=true:=by
    have:=hxo.lg;rw[vgF,zYg]at this;exact this.2
   unfold vgF;rw[zYg];exact⟨zYa (by rw[yCf];omega),zDk x.legs w [] [] Z hw.1 hw.2 h2⟩
  ·exact hv.ok r (by rw[hL];simp[hr])
 ·rw[yCa,yCi];refine⟨hs.1,⟨hs.2.1.1,hs.2.1.2⟩,λa ha b hb=>?_⟩
  rcases zZg.1 hb with rfl|hb
  ·exact hs.2.2 a ha x zW
  ·exact hs.2.2 a ha b (by simp[hb])
def WA (l:List Tk):Nat->Int->List Int
 |0,_=>[]
 |n+1,s=>bif dW l s then s::WA l n (l.getD s.toNat default).par else []
def fZ (l:List Tk) (k:Nat) (a:Int):WA l (k+1) a=bif dW l a then a::WA l k (l.getD a.toNat default).par else []:=rfl
def VN {l:List Tk} {s:Int} (h:dW l s=true):0<=s/\s<l.length:=by
 unfold dW at h;simp only[zYg,zX9]at h;exact h.1
theorem zKp {l:List Tk}:∀(n:Nat) (s x:Int),x∈WA l n s->dW l x=true
 |0,s,x,h=>by simp[WA]at h
 | n+1,s,x,h=>by
  unfold WA at h
  cases hu:dW l s<;>rw[hu]at h
  ·simp at h
  ·rw[zZo,zZg]at h
   rcases h with rfl|h
   ·exact hu
   ·exact zKp n _ x h
def zKq (l:List Tk) (s:Int):List (Nat×xN):=[(1003,.box [iA s]),(1004,.box [zD yY l])]
def zQ6 (l:List Tk) (s:Int):zO 207 [zD yY l,iA s] [] (.fn 225 [.ptr 1003 0 0,.ptr 1004 0 0]) (zKq l s):=by
 refine eM call207 λF hF=>?_
 repeat' (first|(refine zE ?_;first|refine qE (jM (v:=AV.sl _ _) 1004 Z Z) Z Z Z ?_|refine qE (jM (v:=AV.s _) 1003 Z Z) Z Z Z ?_|refine wL tok Z Z ?_|refine uI ?_)|(first|refine xS ?_|refine xC ?_|refine vQ Z ?_|refine yC Z ?_|refine zU Z ?_|refine xH Z (λhc=>?_) λhc=>?_|refine yZ ?_|refine yU ?_|refine xB ?_|refine yQ ?_))
 exact zL [1003,1004] Z Z Z Z
def zKr (l:List Tk) (s:Int):aP prog 225 [.ptr 1003 0 0,.ptr 1004 0 0] (zKq l s) ((WA l 8 s).map λx=>[iA x]):=by
 have hl:=zA yY l;refine cI func225 Z (λargs w=>call225 args w) Z Z Z (λF y hro hit hY=>?_);unfold zKq;refine WW ?_;refine xT (8) [1003,1004] [1003,1004] [0,2] [4,6,1000000,0,2] Z (λi T U zs=>∃(a:Int) (pre:List Int),(WA l 8 s=pre++WA l (8-i) a/\pre.length=i)/\zs=⟨(4,iA a)::(6,iA i)::(1000000,.gh i)::T,U⟩) ?_;(conv=>whnf);refine⟨?_,?_,?_⟩
 ·exact⟨s,[],⟨rfl,rfl⟩,rfl⟩
 ·rintro i st hi ⟨a,pre,⟨hp,hpl⟩,rfl⟩;have c:=zAc l a;obtain⟨k,hk⟩:∃k,8-i=k+1:=⟨7-i,zB⟩;rw[hk,fZ l k a]at hp
  cases hu:dW l a<;>rw[hu]at c hp
  ·rw[zZ6,zY4]at hp;refine zY c ?_;exact gN Z (.inl (by rw[zX5,hp,hpl]))
  ·rw[zZo]at hp;obtain⟨h0,h1⟩:=VN hu;have hy:=yN yY l a h0 h1;have hys:((WA l 8 s).map λx=>[iA x])[i]? =some [iA a]:=by rw[hp];simp[<-hpl]
   have hlen:i<((WA l 8 s).map λx=>[iA x]).length:=(zYu.1 hys).1;generalize ((WA l 8 s).map λx=>[iA x])=xs at *;have hp':WA l 8 s=(pre++[a])++WA l (8-(i+1)) (l.getD a.toNat default).par:=by rw[hp,show 8-(i+1)=k by omega];simp
   generalize l.getD a.toNat default=t at*
   (repeat' (first|refine uJ ?_|apply xL|apply wB|intro hc|(refine zE ?_;refine xJ ?_;first|(first|(refine vP 226 ?_;first|refine zP (zH (c) Z Z Z Z Z) Z ?_|refine qE (zH (c) Z Z Z Z Z) Z Z Z ?_|refine ZJ (zH (c) Z Z Z Z Z) Z Z Z ?_))|(refine LU ?_;refine UU hit hY Z Z hys Z Z Z ?_ ?_))|(refine zE ?_;first|refine SM ?_)|fail))
   ·exact⟨t.par,pre++[a],⟨hp',by simp[hpl]⟩,rfl⟩
   ·exact gN Z (.inr zB)
 ·rintro st ⟨a,pre,⟨hp,hpl⟩,rfl⟩;rw[show WA l (8-8) a=[]from rfl,zY4]at hp;refine WW ?_;exact bB rfl (.inl (by rw[zX5,hp,hpl]))
def deF (l:List Tk) (s top:Int):Bool:=(WA l 8 s).any λa=>a==top
def zKs (l:List Tk) (s top:Int):zO 267 [zD yY l,iA s,iA top] [] (bA (deF l s top)) []:=by
 have c:=zQ6 l s;unfold zKq at c;refine eM call267 λF hF=>?_
 refine zY c ?_;refine vM hF (zKr l s) Z [5,6] [5,6] Z Z Z Z Z Z Z Z Z (λi ys h=>?_) (λ_=>[(5,.box [iA top]),(6,.box [.s (.bool false)])]) (λi=>∀x∈(WA l 8 s).take i,x≠top) (T:=[(5,.ptr 5 0 0),(6,.ptr 6 0 0)]) Z zW (λi ys y hys hI F1 h1 h2=>?_) (λhI=>?_)
 ·rw[zX8,zYf]at h;obtain⟨x,_,rfl⟩:=h;rfl
 ·rw[zX8,zYf]at hys;obtain⟨x,hx,rfl⟩:=hys
  show uQ _ F1 _ _ ⟨[(11,iA x),(5,.ptr 5 0 0),(6,.ptr 6 0 0)],[(5,.box [iA top]),(6,.box [.s (.bool false)])]⟩ _
  have hmem:x∈WA l 8 s:=zZk hx;refine WW ?_;refine⟨rfl,λF2 g1 g2=>?_⟩;by_cases ht:x=top
  ·have hd:deF l s top=true:=zZy.2 ⟨x,hmem,by simpa using ht⟩;rw[hd];refine WW ?_;exact zJ
  ·(refine WW ?_)
   refine⟨rfl,λz hz=>?_⟩;rw[yAj,hx]at hz;simp only[yDi,zYy,zZd]at hz
   rcases hz with hz|rfl
   ·exact hI z hz
   ·exact ht
 ·rw[zX5,zX6]at hI;have hd:deF l s top=false:=yA5.2 λx hx=>by simpa using hI x hx
  rw[hd];refine WW ?_;exact zJ
def zBe (l:List Tk) (now:Int) (j:Nat):Tk:=if(WA l 8 j).any (λa=>exF (l.getD a.toNat default) now)=true then frT else l.getD j default
def QR (l:List Tk) (now:Int) (s:Nat):List Tk:=(List.range l.length).map λj=>if j<s then zBe l now j else l.getD j default
def NN (l:List Tk) (now:Int):List Tk:=(List.range l.length).map (zBe l now)
def HM (l:List Tk) (now:Int) (s:Nat):(QR l now s).length=l.length:=by simp[QR]
def zKt (l:List Tk) (now:Int):QR l now 0=l:=by
 unfold QR;apply zZf;intro j;rw[zX8];by_cases h:j<l.length
 ·rw[zY5 h];simp[List.getD,h]
 ·rw[zYx xX,zYx zB];rfl
def zPc (l:List Tk) (now:Int):QR l now l.length=NN l now:=by
 unfold QR NN;apply yA3;intro j hj;rw[zYs]at hj;rw[zX3 hj]
def zKu (l:List Tk) (now:Int) (s:Nat) (h:s<l.length):(QR l now s)[s]? =some (l.getD s default):=by
 unfold QR;rw[zX8,zY5 h];simp
def zKv (l:List Tk) (now:Int) (s:Nat):QR l now (s+1)=(QR l now s).set s (zBe l now s):=by
 unfold QR;apply zZf;intro j;rw[yAb,zX8,zX8];by_cases h:j<l.length
 ·rw[zY5 h];by_cases hs:s=j
  ·subst hs;simp[h]
  ·rw[zX2 hs];by_cases hj:j<s
   ·simp[hj,show j<s+1 by omega]
   ·simp[hj,show¬j<s+1 by omega]
 ·rw[zYx xX]
  split<;>simp;omega
theorem zKw (l:List Tk) (hb:GJ l) (now:Int):zO 174 [zD yY l,iA now] [] (zD yY (NN l now)) []:=by
 have c:=VA l hb;have hn:=hb.n;have hll:=zA yY l;refine eM call174 λF hF=>?_
 refine zY c ?_;refine zS ((l.map yY).length) [1001,2,3,5] [2,3,5] [2,3,5,11,18] [12,2,3,5,11,18] Z (λi T U=>⟨(12,iA i)::T,(1001,.arr 6 ((QR l now i).map yY) false)::U⟩) ?_;(conv=>whnf);refine⟨by(rw[zKt];rfl),?_,?_⟩
 ·intro i hi;have hi':i<l.length:=by omega
  have c1:=zQ6 l i;unfold zKq at c1;have hy:((QR l now i).map yY)[i]? =some (yY (l.getD i default)):=by rw[zX8,zKu l now i hi'];rfl
  have es:=zKv l now i;have hif:=zAd;have hrl:i<((QR l now i).map yY).length:=by rw[zX5,HM];exact hi'
  refine zY c1 ?_
  refine vM hF (zKr l i) Z [2,3,5,6,1001] [2,3,5,6,11,12] Z Z Z Z Z Z Z Z Z (λk ys h=>?_) (λ_=>[(2,.box [zD yY l]),(3,.box [iA now]),(5,.box [.ref 1001 0 (l.map yY).length]),(6,.box [iA i]),(1001,.arr 6 ((QR l now i).map yY) false)]) (λk=>∀x∈(WA l 8 i).take k,exF (l.getD x.toNat default) now=false)
   (T:=[(2,.ptr 2 0 0),(3,.ptr 3 0 0),(5,.ptr 5 0 0),(6,.ptr 6 0 0),(11,iA (l.map yY).length),(12,iA i)]) Z zW (λk ys y hys hI F1 h1 h2=>?_) (λhI=>?_)
  ·rw[zX8,zYf]at h;obtain⟨x,_,rfl⟩:=h;rfl
  ·rw[zX8,zYf]at hys;obtain⟨x,hx,rfl⟩:=hys
   show uQ _ F1 _ _ ⟨[(18,iA x),(2,.ptr 2 0 0),(3,.ptr 3 0 0),(5,.ptr 5 0 0),(6,.ptr 6 0 0),(11,iA (l.map yY).length),(12,iA i)],[(2,.box [zD yY l]),(3,.box [iA now]),(5,.box [.ref 1001 0 (l.map yY).length]),(6,.box [iA i]),(1001,.arr 6 ((QR l now i).map yY) false)]⟩ _
   have hmem:x∈WA l 8 i:=zZk hx;obtain⟨b1,b2⟩:=VN (zKp _ _ _ hmem);have hy2:=yN yY l x b1 b2;have ce:=LR (l.getD x.toNat default) now;refine WW ?_;refine⟨rfl,λF2 g1 g2=>?_⟩
   cases he:exF (l.getD x.toNat default) now<;>rw[he]at ce
   ·(refine zY ce ?_)
    refine⟨rfl,λz hz=>?_⟩;rw[yAj,hx]at hz;simp only[yDi,zYy,zZd]at hz
    rcases hz with hz|rfl
    ·exact hI z hz
    ·exact he
   ·have e2:(QR l now (i+1)).map yY=((QR l now i).map yY).set i (yY frT):=by
     rw[es,zBe,zX3 (zZy.2 ⟨x,hmem,he⟩),zZ8]
    generalize (QR l now i).map yY=xs at *;generalize (QR l now (i+1)).map yY=ys at *;subst e2;refine yR (wZ ce hif) ?_;rfl
  ·rw[zX5,zX6]at hI
   have e2:(QR l now (i+1)).map yY=(QR l now i).map yY:=by
    rw[es,zBe,zX2 (by simpa using hI)]
    congr 1
    have:=zKu l now i hi';rw[zYu]at this;obtain⟨h,e⟩:=this;rw[<-e,yC7]
   generalize (QR l now i).map yY=xs at *;generalize (QR l now (i+1)).map yY=ys at *;subst e2;refine WW ?_;rfl
 ·have hl2:(l.map yY).length=((QR l now l.length).map yY).length:=by simp[HM]
  rw[<-zPc];rw[hll]at *; refine WW ?_;exact zI [] Z Z (zY3 (AV.sl false) (zYe (by simp[HM]))) Z
end Av
end Go.Proofs.YteajjdidebfcjaaGreat
