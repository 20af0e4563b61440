/- Part 15. -/
import Derived.Test.YtmamjhmoegjapaaGreatQ14
namespace Go.Proofs.YtmamjhmoegjapaaGreat
namespace Av
open Tryz
set_option linter.all false
set_option maxRecDepth 4000
set_option maxHeartbeats 2000000
theorem zHe:∀(r:List Int) (i:Nat) (n:Int),BY r->0<=n->(XX r i n=(0,0,6))∨((XX r i n).2.2=0/\0<=(XX r i n).1/\(XX r i n).1<=4294967295/\(i:Int)+1<=(XX r i n).2.1/\(XX r i n).2.1<=i+r.length)
 | [],i,n,_,_=> .inl rfl
 | x::r,i,n,hb,hn=>by
  have hx:=hb x zS
  have hp:0<=n+x.tmod 128*128 ^ i:=by
   have h1:0<=x.tmod 128:=by rw[zYn hx.1];omega
   have h2:(0:Int)<=128 ^ i:=Int.pow_nonneg zB;have:=yC6 h1 h2;omega
  rw[XX];by_cases h5:i=5
  ·exact .inl (zW9 h5)
  rw[zW8 h5];by_cases h1:128<=x
  ·rw[zW9 h1]
   rcases zHe r (i+1) (n+x.tmod 128*128 ^ i) (λy hy=>hb y (by simp[hy])) hp with h|⟨a,b,c,d,e⟩
   ·exact .inl h
   ·refine .inr ⟨a,b,c,zB,?_⟩;rw[zXl];omega
  ·rw[zW8 h1];by_cases h2:4294967295<n+x.tmod 128*128 ^ i∨(0<i/\x=0)
   ·exact .inl (zW9 h2)
   ·rw[zW8 h2];refine .inr ⟨rfl,hp,zB,zZf _,?_⟩
    show(i:Int)+1<=_
    rw[zXl];omega
theorem BS (b:List Int) (hb:BY b):aA b=(0,0,6)∨((aA b).2.2=0/\0<=(aA b).1/\(aA b).1<=4294967295/\1<=(aA b).2.1/\(aA b).2.1<=b.length):=by
 have:=zHe b 0 0 hb (zZf _)
 rcases this with h|⟨a,b,c,d,e⟩
 ·exact .inl h
 ·exact .inr ⟨a,b,c,by have:(0:Int)+1<=(aA _).2.1:=d;omega,by have:(aA _).2.1<=(0:Int)+_:=e;omega⟩
def YM:Nat->List Int->Option (List Int×List Int)
 |0,b=>some ([],b)
 |n+1,b=>if(aA b).2.2=0 then(match YM n (b.drop (aA b).2.1.toNat)with|none=>none|some (l,r)=>some ((aA b).1::l,r))else none
def nbG (l:List Int):Option (List Int×List Int)->Option (List Int×List Int)
 |none=>none
 |some (k,r)=>some (l++k,r)
theorem zA7 (o:Option (List Int×List Int)):nbG [] o=o:=by
 cases o with
 |none=>rfl
 |some p=>rfl
theorem zHf {l b:List Int} {n:Nat} (h:(aA b).2.2≠0):nbG l (YM (n+1) b)=none:=by
 rw[YM,zW8 h];rfl
theorem zHg {l b:List Int} {n:Nat} (h:(aA b).2.2=0):nbG l (YM (n+1) b)=nbG (l++[(aA b).1]) (YM n (b.drop (aA b).2.1.toNat)):=by
 rw[YM,zW9 h]
 cases YM n (b.drop (aA b).2.1.toNat)with
 |none=>rfl
 |some p=>obtain⟨k,r⟩:=p;simp[nbG]
def nbT:Option (List Int×List Int)->AV
 |none=> .tup [zD iA [],zD yA [],bA false]
 |some (l,r)=> .tup [zD iA l,zD yA r,bA true]
theorem fY (b:List Int) (n:Nat) (hb:BY b) (hbn:b.length<=100000) (hn:n<=1000):zN 135 [zD yA b,iA n] [] (nbT (YM n b)) []:=by
 refine eM call135 λF hF=>?_
 refine WW ?_;refine vW 12 rfl ?_;refine xT (n) [12] [] [13] [0,7,14,13] rfl (λi T U zs=>∃acc c,(acc.length=i/\BY c/\c.length<=100000/\YM n b=nbG acc (YM (n-i) c))/\zs=⟨(0,zD yA c)::(7,.ref 12 0 (acc.map iA).length)::(14,iA i)::T,(12,.arr 1 (acc.map iA) true)::U⟩) ?_;(conv=>whnf);refine⟨?_,?_,?_⟩
 ·exact⟨[],b,⟨rfl,hb,hbn,by rw[zA7];rfl⟩,rfl⟩
 ·rintro i st hi ⟨acc,c,⟨q0,q1,q2,q3⟩,rfl⟩;have hd:=zVq c q1 q2;have hl:=zA yA c;have hla:=zA iA acc;rw[show n-i=(n-(i+1))+1 by omega]at q3
  rcases BS c q1 with h|⟨h1,h2,h3,h4,h5⟩
  ·rw[q3,zHf (by rw[h];decide)];rw[h]at hd;clear q3 h
   show uC _ _ _ _ _ (XS (inB 0 (MR _ _ _ _ (Fin _ _ [] (.tup [zD iA [],zD yA [],bA false]) []))) _)
   refine zU hd ?_;exact zK
  ·rw[zHg h1]at q3;rw[h1]at hd;have hbd:BY (c.drop (aA c).2.1.toNat):=λy hy=>q1 y (zYl hy)
   have hcd:(c.drop (aA c).2.1.toNat).length<=100000:=by rw[zYd];omega
   clear h1;rw[q3];generalize (aA c).1=v at *;generalize (aA c).2.1=k at *;refine zU hd ?_;refine⟨acc++[v],c.drop k.toNat,⟨by simp[q0],hbd,hcd,rfl⟩,?_⟩;rw[zXf];rfl
 ·rintro st ⟨acc,c,⟨q0,q1,q2,q3⟩,rfl⟩;rw[q3,zZo]
  show uC _ _ _ _ _ (XS (inB 0 (MR _ _ _ _ (Fin _ _ [] (.tup [zD iA (acc++[]),zD yA c,bA true]) []))) _)
  rw[zX8];refine WW ?_;exact zH [] rfl rfl (zX7 (λz=>AV.tup [z,zD yA c,bA true]) (bD _ _)) rfl
def FG:Nat->Int->List Int
 |0,n=>[n]
 |f+1,n=>if n<128 then [n]else(n % 128+128)::FG f (n/128)
def uZ (n:Int):List Int:=FG 4 n
theorem BT {n:Int} {z:Nat} (h:n<128 ^ (z+1+1)):n/128<128 ^ (z+1):=Int.ediv_lt_of_lt_mul xL (by rw[yCh]at h;exact h)
theorem UO {f:Nat} {n:Int} (h:n<128):FG f n=[n]:=by
 cases f with
 |zero=>rfl
 |succ f=>exact zW9 h
theorem QR {f:Nat} {n:Int} (h:128<=n):FG (f+1) n=(n % 128+128)::FG f (n/128):=zW8 zB
theorem zPp (n:Int) (h0:0<=n) (h1:n<=4294967295):zN 174 [iA n] [] (.tup [zD yA (uZ n),iA 0]) []:=by
 have cs:=zHy n
 have hsz:1<=szF n:=by
  rw[zHx h0 h1];unfold lgF
  repeat' split
  all_goals omega
 generalize szF n=s at *;generalize hR:uZ n=R;refine eM call174 λF hF=>?_
 refine zU cs ?_;refine xG 4 1001 1 rfl rfl rfl ?_;refine fW (4) [1001] [] [] [0,4] rfl (λzn T U zs=>∃(m:Int) (acc:List Int),(0<=m/\m<=4294967295/\m<128 ^ (zn+1)/\acc.length+zn=4/\acc++FG zn m=R)/\zs=⟨(0,iA m)::(4,.ref 1001 0 (acc.map yA).length)::T,(1001,.arr 1 (acc.map yA) true)::U⟩) ?_;(conv=>whnf);refine⟨?_,?_⟩
 ·exact⟨n,[],⟨h0,h1,by show n<34359738368;omega,rfl,hR⟩,rfl⟩
 ·rintro zn st ⟨m,acc,⟨q0,q1,q2,q3,q4⟩,rfl⟩;have hla:=zA yA acc;by_cases hm:128<=m
  ·obtain⟨z,rfl⟩:∃z,zn=z+1:=by
    cases zn with
    |zero=>exfalso;have:m<128:=q2;omega
    |succ z=>exact⟨z,rfl⟩
   rw[QR hm]at q4;have hd:=BT q2;have ht:m.tmod 128=m % 128:=zYn q0;have hmd:m.tdiv 128=m/128:=zY0 q0;have hir:YI .i64 (m.tdiv 128):=⟨zB,zB⟩;clear q2;refine WW ?_;refine⟨z,zB,m.tdiv 128,acc++[m.tmod 128+128],⟨zB,zB,by rw[hmd];exact hd,by simp;omega,by rw[hmd,ht,zXy];exact q4⟩,?_⟩;rw[zXf];rfl
  ·rw[UO zB]at q4;clear q2;subst q4;refine WW ?_;refine zH [] rfl rfl ?_ rfl
   show AV.tup [AV.sl false ((acc.map yA++[yA m]).take (acc.map yA++[yA m]).length),iA 0]=_
   rw[zXe];unfold zD;rw[zXf];rfl
theorem zM7 {n:Int} (h0:0<=n) (h1:n<=4294967295):fV n 127=n % 128:=by
 obtain⟨a,rfl⟩:=zZ2 h0;unfold fV;rw[show BitVec.ofInt IntKind.i64.bits (a:Int)=BitVec.ofNat IntKind.i64.bits a from yAm ..];rw[show BitVec.ofInt IntKind.i64.bits (127:Int)=BitVec.ofNat IntKind.i64.bits 127 from rfl];rw[BitVec.toNat_and,yAl,yAl,zZt (show a<2 ^ IntKind.i64.bits by show a<18446744073709551616;omega),zZt (show 127<2 ^ IntKind.i64.bits by decide)];have e:a &&& 127=a % 128:=Nat.and_two_pow_sub_one_eq_mod a 7;rw[e];exact qT (k:= .i64) (by unfold YI;omega)
theorem zVm:∀k:_root_.Fin 128,IntKind.u8.wrap (BitVec.ofInt IntKind.u8.bits (k.val:Int) ||| BitVec.ofInt IntKind.u8.bits 128).toNat=(k.val:Int)+128:=by decide +kernel
section
variable {P:Program} {tm:List (Nat×AV)} {h:List (Nat×xN)} {tx ty:Nat} {x y:Operand}
theorem zM8 {m:Int} (hx:yL (zG tm) x= .s (.int .u8 m)) (hy:yL (zG tm) y= .s (.int .u8 128)) (h0:0<=m/\m<128):wR P ⟨tm,h⟩ (.binOp .or tx x y ty) (.s (.int .u8 (m+128))) [] [] []:=by
 have e:=zVm ⟨m.toNat,zB⟩;simp only[show((m.toNat:Nat):Int)=m by omega]at e;rw[<-e];exact JY hx hy
end
theorem zVn (n:Int) (h0:0<=n) (h1:n<=4294967295):zN 126 [iA n] [] (.tup [zD yA (uZ n),iA 0]) []:=by
 generalize hR:uZ n=R;refine eM call126 λF hF=>?_
 refine WW ?_;refine vW 11 rfl ?_;refine fW (4) [11] [] [] [0,4] rfl (λzn T U zs=>∃(m:Int) (acc:List Int),(0<=m/\m<=4294967295/\m<128 ^ (zn+1)/\acc.length+zn=4/\acc++FG zn m=R)/\zs=⟨(0,iA m)::(4,.ref 11 0 (acc.map yA).length)::T,(11,.arr 1 (acc.map yA) true)::U⟩) ?_;(conv=>whnf);refine⟨?_,?_⟩
 ·exact⟨n,[],⟨h0,h1,by show n<34359738368;omega,rfl,hR⟩,rfl⟩
 ·rintro zn st ⟨m,acc,⟨q0,q1,q2,q3,q4⟩,rfl⟩;have hla:=zA yA acc;by_cases hm:128<=m
  ·obtain⟨z,rfl⟩:∃z,zn=z+1:=by
    cases zn with
    |zero=>exfalso;have:m<128:=q2;omega
    |succ z=>exact⟨z,rfl⟩
   rw[QR hm]at q4;have hd:=BT q2;have ha:=zM7 q0 q1;have hab:0<=fV m 127/\fV m 127<128:=by omega
   have hs:vR m 7=m/128:=zZm m xL;clear q2
   (repeat' (first|refine qA ?_|refine xQ (λhc=>?_) (λhc=>?_)|refine wD (λhc=>?_)|(refine zE ?_;first|(refine wZ ?_;refine xK (zM8 rfl rfl hab) rfl ?_)|refine SM ?_)|fail))
   refine⟨z,zB,vR m 7,acc++[fV m 127+128],⟨zB,zB,by rw[hs];exact hd,by simp;omega,by rw[hs,ha,zXy];exact q4⟩,?_⟩;rw[zXf];rfl
  ·rw[UO zB]at q4;clear q2;subst q4;refine WW ?_;refine zH [] rfl rfl ?_ rfl
   show AV.tup [AV.sl false ((acc.map yA++[yA m]).take (acc.map yA++[yA m]).length),iA 0]=_
   rw[zXe];unfold zD;rw[zXf];rfl
theorem FH:∀(r:List Int) (i:Nat) (n:Int),BY r->i<=5->(XX r i n).2.2=0->∃q:Int,0<=q/\(XX r i n).1=n+q*128 ^ i/\(0<i->0<q)/\i<=4/\∃j:Nat,(XX r i n).2.1=((i+j:Nat):Int)/\FG (4-i) q=r.take j
 | [],i,n,_,_,h=>by exact absurd (show(6:Int)=0 from h) xL
 | x ::r,i,n,hb,h5,h=>by
  have hx:=hb x zS;by_cases hi:i=5
  ·exfalso;rw[XX,zW9 hi]at h;exact absurd (show(6:Int)=0 from h) xL
  by_cases hx1:128<=x
  ·have e:XX (x::r) i n=XX r (i+1) (n+x.tmod 128*128 ^ i):=by rw[XX,zW8 hi,zW9 hx1]
   rw[e]at h⊢;obtain⟨q,q0,q1,q2,q3,j,q4,q5⟩:=FH r (i+1) _ (λy hy=>hb y (by simp[hy])) zB h;have ht:x.tmod 128=x % 128:=zYn hx.1;have hq:=q2 zB;refine⟨x.tmod 128+q*128,zB,?_,λ_=>by omega,zB,j+1,by rw[q4];omega,?_⟩
   ·rw[q1,yCh,Int.add_mul,Int.mul_assoc,yDe 128,Int.add_assoc]
   ·obtain⟨f,hf⟩:∃f,4-i=f+1:=⟨3-i,zB⟩;rw[hf,QR zB,yBw,<-q5,show 4-(i+1)=f by omega]
    congr 1
    ·omega
    ·congr 1
     omega
  ·have hxm:x.tmod 128=x:=by rw[zYn hx.1];omega
   have e:XX (x::r) i n=if 4294967295<n+x.tmod 128*128 ^ i∨(0<i/\x=0)then(0,0,6)else(n+x.tmod 128*128 ^ i,(i:Int)+1,0):=by rw[XX,zW8 hi,zW8 hx1]
   rw[e]at h⊢;by_cases hbad:4294967295<n+x.tmod 128*128 ^ i∨(0<i/\x=0)
   ·rw[zW9 hbad]at h;exact absurd (show(6:Int)=0 from h) xL
   ·rw[zW8 hbad,hxm];refine⟨x,hx.1,rfl,λh0=>?_,zB,1,by show(i:Int)+1=_;omega,?_⟩
    ·have:x≠0:=λh=>hbad (.inr ⟨h0,h⟩)
     omega
    ·rw[UO zB];rfl
theorem zHh {b:List Int} (hb:BY b) (h:(aA b).2.2=0):uZ (aA b).1=b.take (aA b).2.1.toNat:=by
 obtain⟨q,_,q1,_,_,j,q4,q5⟩:=FH b 0 0 hb zB h
 have e1:(aA b).1=q:=by
  show(XX b 0 0).1=q
  rw[q1];simp
 have e2:(aA b).2.1.toNat=j:=by
  show(XX b 0 0).2.1.toNat=j
  rw[q4];simp
 rw[e1,e2];exact q5
theorem XD:∀(n:Nat) (b l r:List Int),BY b->YM n b=some (l,r)->l.length=n/\BY r/\(∀x∈l,0<=x/\x<=4294967295)/\b=(l.map uZ).flatten++r
 |0,b,l,r,hb,h=>by
  cases h;exact⟨rfl,hb,by simp,rfl⟩
 | n +1,b,l,r,hb,h=>by
  rw[YM]at h;by_cases he:(aA b).2.2=0
  ·rw[zW9 he]at h
   rcases BS b hb with h0|⟨_,h2,h3,h4,h5⟩
   ·rw[h0]at he;exact absurd (show(6:Int)=0 from he) xL
   cases hn:YM n (b.drop (aA b).2.1.toNat)with
   |none=>rw[hn]at h;cases h
   | some p=>
    obtain⟨l',r'⟩:=p;rw[hn]at h;cases h;obtain⟨g1,g2,g3,g4⟩:=XD n _ l' r (λy hy=>hb y (zYl hy)) hn;refine⟨by simp[g1],g2,λx hx=>?_,?_⟩
    ·rcases zYq.1 hx with rfl|hx
     ·exact⟨h2,h3⟩
     ·exact g3 x hx
    ·rw[zYi,zZ9,zHh hb he,zXy,<-g4,zZ1]
  ·rw[zW8 he]at h;cases h
theorem TL (b:List Int) (n:Nat) (l r:List Int) (hb:BY b) (hbn:b.length<=100000) (hn:n<=1000) (hok:YM n b=some (l,r)):zN 135 [zD yA b,iA n] [] (.tup [.ref 1001 0 (l.map iA).length,zD yA r,bA true]) [(1001,.arr 1 (l.map iA) true)]:=by
 refine eM call135 λF hF=>?_
 (repeat' (first|refine qA ?_|refine xQ (λhc=>?_) (λhc=>?_)|refine wD (λhc=>?_)|(refine zE ?_;first|(refine gO ?_;refine cE 1001 tok rfl rfl rfl rfl rfl rfl rfl rfl rfl rfl rfl rfl rfl zB zB rfl rfl rfl ?_))|fail))
 refine vW 1001 rfl ?_;refine xT (n) [1001] [] [13] [0,7,14,13] rfl (λi T U zs=>∃acc c,(acc.length=i/\BY c/\c.length<=100000/\YM n b=nbG acc (YM (n-i) c))/\zs=⟨(0,zD yA c)::(7,.ref 1001 0 (acc.map iA).length)::(14,iA i)::T,(1001,.arr 1 (acc.map iA) true)::U⟩) ?_;(conv=>whnf);refine⟨?_,?_,?_⟩
 ·exact⟨[],b,⟨rfl,hb,hbn,by rw[zA7];rfl⟩,rfl⟩
 ·rintro i st hi ⟨acc,c,⟨q0,q1,q2,q3⟩,rfl⟩;have hd:=zVq c q1 q2;have hl:=zA yA c;have hla:=zA iA acc;rw[show n-i=(n-(i+1))+1 by omega]at q3
  rcases BS c q1 with h|⟨h1,h2,h3,h4,h5⟩
  ·rw[zHf (by rw[h];decide),hok]at q3;cases q3
  ·rw[zHg h1]at q3;rw[h1]at hd;have hbd:BY (c.drop (aA c).2.1.toNat):=λy hy=>q1 y (zYl hy)
   have hcd:(c.drop (aA c).2.1.toNat).length<=100000:=by rw[zYd];omega
   clear h1;generalize (aA c).1=v at *;generalize (aA c).2.1=k at *;refine zU hd ?_;refine⟨acc++[v],c.drop k.toNat,⟨by simp[q0],hbd,hcd,q3⟩,?_⟩;rw[zXf];rfl
 ·rintro st ⟨acc,c,⟨q0,q1,q2,q3⟩,rfl⟩;rw[zZo,hok]at q3;have e:(l,r)=(acc++[],c):=zZr q3;rw[zX8]at e;cases e;refine WW ?_;exact zL [1001] rfl rfl rfl rfl
def jB (k:Int):Nat:=if k=2∨k=6 then 3 else if k=4 then 2 else if k=1∨k=9∨k=12 then 0 else 1
def uH (k:Int):Nat:=if k=6 then 4 else if k=7 then 2 else 0
def shA (fx gr:Nat):AV:= .agg [iA 10,iA fx,iA gr,iA (if gr=0 then 0 else 1),iA (if gr=0 then 0 else 3),iA 0]
theorem zDc (k:Int) (h0:1<=k) (h1:k<=12):zN 124 [iA k] [] (.tup [shA (jB k) (uH k),bA true]) []:=by
 obtain rfl|rfl|rfl|rfl|rfl|rfl|rfl|rfl|rfl|rfl|rfl|rfl:k=1∨k=2∨k=3∨k=4∨k=5∨k=6∨k=7∨k=8∨k=9∨k=10∨k=11∨k=12:=by omega
 all_goals (refine eM call124 λF hF=>?_)
 all_goals (refine WW ?_)
 all_goals exact zK
def dcF (fx gr:Nat) (p:List Int):Option (List Int):=
 if 200<p.length∨p.length<10 then none else match YM fx (p.drop 10)with
 |none=>none
 | some (a,r)=>if gr=0 then(if r=[]then some a else none)else match YM 1 r with
  |none=>none
  |some (c,r2)=>if c.getD 0 0<1∨3<c.getD 0 0 then none else match YM ((c.getD 0 0).toNat*gr) r2 with
   |none=>none
   |some (f,r3)=>if r3=[]then some (a++f)else none
def deT (k:Int) (tok:List Int):Option (List Int)->AV
 |none=> .tup [zY ⟨0,[],[],[]⟩,iA 6]
 |some a=> .tup [zY ⟨k,tok,a,[]⟩,iA 0]
theorem zHi (k:Int) (h0:1<=k) (h1:k<=12) (p:List Int) (hb:BY p) (hn:p.length<=100000):zN 80 [iA k,zD yA p] [] (deT k (p.take 10) (dcF (jB k) (uH k) p)) []:=by
 have hl:=zA yA p;have c1:=zDc k h0 h1
 have hf:jB k<=3:=by
  unfold jB
  repeat' split
  all_goals omega
 have hg:uH k=0∨(2<=uH k/\uH k<=4):=by
  unfold uH
  repeat' split
  all_goals omega
 generalize jB k=fx at *;generalize uH k=gr at *;unfold shA at c1;by_cases hlen:200<p.length∨p.length<10
 ·rw[show dcF fx gr p=none from zW9 hlen]
  show zN 80 [iA k,zD yA p] [] (.tup [zY ⟨0,[],[],[]⟩,iA 6]) []
  by_cases h2:200<p.length
  ·(refine eM call80 λF hF=>?_)
   refine zU c1 ?_;exact zK
  ·have h3:=hlen.resolve_left h2;refine eM call80 λF hF=>?_
   refine zU c1 ?_;exact zK
 have e0:dcF fx gr p=_:=zW8 hlen;rw[e0];clear e0;have hbd:BY (p.drop 10):=λy hy=>hb y (zYl hy)
 have hdl:(p.drop 10).length<=100000:=by rw[zYd];omega
 have c2:=fY (p.drop 10) fx hbd hdl zB
 cases hnb:YM fx (p.drop 10)with
 |none=>
  rw[hnb]at c2
  show zN 80 [iA k,zD yA p] [] (.tup [zY ⟨0,[],[],[]⟩,iA 6]) []
  unfold nbT at c2;refine eM call80 λF hF=>?_
  refine yO (wW c1 c2) ?_;exact zK
 |some q=>
 obtain⟨a,r⟩:=q;obtain⟨ha,hbr,har,hsp⟩:=XD _ _ _ _ hbd hnb
 have hrl:r.length<=100000:=by
  have:=zX7 List.length hsp;rw[zXb]at this;omega
 have hlr:=zA yA r;have hla:=zA iA a;have k1:=wA (p.take 10) (by rw[zXw];omega)
 rcases hg with rfl|⟨g2,g4⟩
 ·rw[hnb]at c2;unfold nbT at c2;dsimp only;rw[zW9 rfl];by_cases hr:r=[]
  ·subst hr;have k2:=wA [] zS;rw[zW9 rfl]
   show zN 80 [iA k,zD yA p] [] (.tup [zY ⟨k,p.take 10,a,[]⟩,iA 0]) []
   refine eM call80 λF hF=>?_
   refine yO (aB c1 c2 k1 k2) ?_;exact zK
  ·have hr0:r.length≠0:=λh=>hr (zYc h)
   rw[zW8 hr]
   show zN 80 [iA k,zD yA p] [] (.tup [zY ⟨0,[],[],[]⟩,iA 6]) []
   refine eM call80 λF hF=>?_
   refine yO (wW c1 c2) ?_;exact zK
 have c2o:=TL (p.drop 10) fx a r hbd hdl zB hnb;have c3:=fY r 1 hbr hrl zB;clear c2;dsimp only;rw[zW8 zB]
 cases hnc:YM 1 r with
 |none=>
  rw[hnc]at c3;unfold nbT at c3
  show zN 80 [iA k,zD yA p] [] (.tup [zY ⟨0,[],[],[]⟩,iA 6]) []
  refine eM call80 λF hF=>?_
  refine yO (gU c1 c2o c3) ?_;exact zK
 |some q2=>
 obtain⟨c,r2⟩:=q2;obtain⟨hc1,hbr2,hcr,hsp2⟩:=XD _ _ _ _ hbr hnc
 obtain⟨v,rfl⟩:∃v,c=[v]:=by
  cases c with
  |nil=>cases hc1
  |cons v c=>cases c with
   |nil=>exact⟨v,rfl⟩
   |cons w c=>simp at hc1
 have hrl2:r2.length<=100000:=by
  have:=zX7 List.length hsp2;rw[zXb]at this;omega
 rw[hnc]at c3;unfold nbT at c3;dsimp only;rw[show [v].getD 0 0=v from rfl];by_cases hv:v<1∨3<v
 ·rw[zW9 hv]
  show zN 80 [iA k,zD yA p] [] (.tup [zY ⟨0,[],[],[]⟩,iA 6]) []
  by_cases hv1:v<1
  ·(refine eM call80 λF hF=>?_)
   refine yO (gU c1 c2o c3) ?_;exact zK
  ·have hv2:=hv.resolve_left hv1;refine eM call80 λF hF=>?_
   refine yO (gU c1 c2o c3) ?_;exact zK
 rw[zW8 hv];have hvg:v.toNat*gr<=12:=zYg (yAe (show v.toNat<=3 by omega) g4) xL;have evg:((v.toNat*gr:Nat):Int)=v*(gr:Int):=by rw[yBh,yCk zB]
 have c4:=fY r2 (v.toNat*gr) hbr2 hrl2 zB;rw[evg]at c4;have hm:0<=v*(gr:Int)/\v*(gr:Int)<=12:=by rw[<-evg];omega
 clear evg
 cases hnd:YM (v.toNat*gr) r2 with
 |none=>
  rw[hnd]at c4;unfold nbT at c4
  show zN 80 [iA k,zD yA p] [] (.tup [zY ⟨0,[],[],[]⟩,iA 6]) []
  refine eM call80 λF hF=>?_
  refine yO (aB c1 c2o c3 c4) ?_;exact zK
 |some q3=>
 obtain⟨f,r3⟩:=q3;obtain⟨hfl,hbr3,hfr,hsp3⟩:=XD _ _ _ _ hbr2 hnd;have hlf:=zA iA f;have hlr3:=zA yA r3;rw[hnd]at c4;unfold nbT at c4;dsimp only;by_cases hr:r3=[]
 ·subst hr;have k2:=wA [] zS;rw[zW9 rfl]
  show zN 80 [iA k,zD yA p] [] (.tup [zY ⟨k,p.take 10,a++f,[]⟩,iA 0]) []
  refine eM call80 λF hF=>?_
  refine yO (zt6 c1 c2o c3 c4 k1 k2) ?_;refine zH [] rfl rfl ?_ rfl
  show AV.tup [.agg [iA k,zD yA (p.take 10),.sl false ((a.map iA++f.map iA).take (a.map iA++f.map iA).length),zD yA []],iA 0]=_
  rw[zXe,<-zXf];rfl
 ·have hr0:r3.length≠0:=λh=>hr (zYc h)
  rw[zW8 hr]
  show zN 80 [iA k,zD yA p] [] (.tup [zY ⟨0,[],[],[]⟩,iA 6]) []
  refine eM call80 λF hF=>?_
  refine yO (aB c1 c2o c3 c4) ?_;exact zK
def zSa (fx gr:Nat):AV:= .agg [iA fx,iA gr,iA (if gr=0 then 0 else 1),iA (if gr=0 then 0 else 3),iA 0]
theorem zHj (k:Int) (h0:1<=k) (h1:k<=12):zN 138 [iA k] [] (zSa (jB k) (uH k)) []:=by
 obtain rfl|rfl|rfl|rfl|rfl|rfl|rfl|rfl|rfl|rfl|rfl|rfl:k=1∨k=2∨k=3∨k=4∨k=5∨k=6∨k=7∨k=8∨k=9∨k=10∨k=11∨k=12:=by omega
 all_goals (refine eM call138 λF hF=>?_)
 all_goals (refine WW ?_)
 all_goals exact zK
def UP (fx gr:Nat) (c:Int):Nat->List Int->List Int
 |_,[]=>[]
 |i,x::r=>(if i=fx/\gr≠0 then [c]else [])++(uZ x++UP fx gr c (i+1) r)
def bW (fx gr:Nat) (c:Int) (m:Ms):List Int:=(m.tok++UP fx gr c 0 m.args)++((if gr≠0/\m.args.length=fx then [0]else [])++m.data)
theorem zA8:∀(f:Nat) (n:Int),1<=(FG f n).length/\(FG f n).length<=f+1
 |0,n=>by simp[FG]
 |f+1,n=>by
  have:=zA8 f (n/128);rw[FG];split
  ·simp
  ·rw[zXl];omega
theorem jR (n:Int):1<=(uZ n).length/\(uZ n).length<=5:=zA8 4 n
theorem MI (k:Int) (h0:1<=k) (h1:k<=12) (m:Ms) (c:Nat) (hk:m.kind=k) (ht:m.tok.length=10) (hd:m.data.length<=100000) (ha:∀x∈m.args,0<=x/\x<=4294967295) (hn:m.args.length<=1000) (hc:uH k≠0->m.args.length=jB k+c*uH k) (hc3:c<=3):
  zN 140 [zY m] [] (zD yA (bW (jB k) (uH k) c m)) []:=by
 subst hk;have c1:=zHj m.kind h0 h1
 have hg:uH m.kind<=4:=by
  unfold uH
  repeat' split
  all_goals omega
 generalize jB m.kind=fx at *;generalize uH m.kind=gr at *;unfold zSa at c1;have hlt:=zA yA m.tok;have hla:=zA iA m.args;have hld:=zA yA m.data;unfold bW;generalize hT:m.tok++UP fx gr c 0 m.args=tot;refine eM call140 λF hF=>?_
 (have zc1:=c1;(repeat' (first|refine qA ?_|refine xQ (λhc=>?_) (λhc=>?_)|refine wD (λhc=>?_)|(refine zE ?_;first|(refine yV ?_;refine jI 1001 tok rfl rfl rfl rfl rfl rfl (xH _ _ (λ_=>rfl)) rfl rfl rfl zB rfl rfl rfl ?_))|fail))<;>clear zc1)
 refine vW 1001 rfl ?_;refine kJ (m.args) [1001,1,3] [1,3] [1,3,16,17] [4,18,1,3,16,17] rfl (λi pre T U zs=>∃acc:List Int,(acc.length<=10+6*i/\∀post,m.args=pre++post->acc++UP fx gr c i post=tot)/\zs=⟨(4,.ref 1001 0 (acc.map yA).length)::(18,iA i)::T,(1001,.arr 1 (acc.map yA) true)::U⟩) ?_;(conv=>whnf);refine⟨?_,?_,?_⟩
 ·exact⟨m.tok,⟨zB,λpost h=>by rw[<-hT,h];rfl⟩,rfl⟩
 ·rintro i pre x post st hx hi ⟨acc,⟨q0,q1⟩,rfl⟩;have hy:=yP iA hx hi;have hlt2:=yF hx hi;have hxr:=ha x (xV hx);have hla2:=zA yA acc;have he:=jR x;have c2:=zPp x hxr.1 hxr.2;have hle:=zA yA (uZ x)
  have hpost:∀p,m.args=pre++[x]++p->p=post:=λp h=>by
   rw[hx,zXy]at h;simpa using h.symm
  have hT3:=q1 _ hx;clear q1 hT hx;by_cases hi2:i=fx/\gr≠0
  ·obtain⟨rfl,hg0⟩:=hi2;have hcl:=hc hg0
   have hq:(((m.args.map iA).length:Int)-(i:Int)).tdiv (gr:Int)=(c:Int):=by
    rw[hla,hcl,show(((i+c*gr:Nat):Int)-(i:Int))=(c:Int)*(gr:Int) by rw[yCe,yBh];omega];exact Int.mul_tdiv_cancel _ zB
   have hir:YI .i64 ((((m.args.map iA).length:Int)-(i:Int)).tdiv (gr:Int)):=by rw[hq];exact⟨zB,zB⟩
   have e:UP i gr c i (x::post)=[(c:Int)]++(uZ x++UP i gr c (i+1) post):=by rw[UP,zW9 ⟨rfl,hg0⟩]
   rw[e]at hT3;clear e hcl hc;generalize uZ x=ex at *;refine yO (wW c1 c2) ?_;refine⟨acc++[(c:Int)]++ex,⟨by simp;omega,λp h=>by rw[hpost p h,<-hT3];simp⟩,?_⟩;rw[zXf,zXf,<-hq];rfl
  ·have e:UP fx gr c i (x::post)=uZ x++UP fx gr c (i+1) post:=by rw[UP,zW8 hi2];rfl
   rw[e]at hT3;clear e hc;generalize uZ x=ex at *;by_cases hif:i=fx
   ·have hg0:gr=0:=by
     by_cases h:gr=0
     ·exact h
     ·exact absurd ⟨hif,h⟩ hi2
    refine yO (wW c1 c2) ?_;refine⟨acc++ex,⟨by simp;omega,λp h=>by rw[hpost p h,<-hT3];simp⟩,?_⟩;rw[zXf];rfl
   ·(refine yO (wW c1 c2) ?_)
    refine⟨acc++ex,⟨by simp;omega,λp h=>by rw[hpost p h,<-hT3];simp⟩,?_⟩;rw[zXf];rfl
 ·rintro st ⟨acc,⟨q0,q1⟩,rfl⟩;have e:=q1 [] zS;rw[show UP fx gr c m.args.length []=[]from rfl,zX8]at e;subst e;have hla2:=zA yA acc;clear q1 hT hc;by_cases hz:gr≠0/\m.args.length=fx
  ·rw[zW9 hz];obtain⟨hz1,hz2⟩:=hz;refine WW ?_;refine zH [] rfl rfl ?_ rfl
   show AV.sl false ((acc.map yA++[yA 0]++m.data.map yA).take (acc.map yA++[yA 0]++m.data.map yA).length)=_
   rw[zXe];unfold zD;rw[zXf,zXf,zXy];rfl
  ·rw[zW8 hz];by_cases hz1:gr=0
   ·(refine WW ?_)
    refine zH [] rfl rfl ?_ rfl
    show AV.sl false ((acc.map yA++m.data.map yA).take (acc.map yA++m.data.map yA).length)=_
    rw[zXe];unfold zD;rw[zXf];rfl
   ·have hz2:m.args.length≠fx:=λh=>hz ⟨hz1,h⟩
    refine WW ?_;refine zH [] rfl rfl ?_ rfl
    show AV.sl false ((acc.map yA++m.data.map yA).take (acc.map yA++m.data.map yA).length)=_
    rw[zXe];unfold zD;rw[zXf];rfl
theorem cY (k:Int):zN 139 [iA k] [] (bA (decide (1<=k/\k<=12))) []:=by
 cases hb:decide (1<=k/\k<=12)with
 |false=>(rw[zXu]at hb;(refine eM call139 λF hF=>?_);((refine WW (I2 (λhc=>?_) (λhc=>?_))));all_goals (first|exact zK|exact AG|exact CE))
 |true=>(rw[zXi]at hb;(refine eM call139 λF hF=>?_);((refine WW ?_));all_goals (first|exact zK|exact AG|exact CE))
theorem fI (k:Int):zN 212 [iA k] [] (bA (decide (1<=k/\k<=12))) []:=by
 cases hb:decide (1<=k/\k<=12)with
 |false=>(rw[zXu]at hb;(refine eM call212 λF hF=>?_);((refine WW (I2 (λhc=>?_) (λhc=>?_))));all_goals (first|exact zK|exact AG|exact CE))
 |true=>(rw[zXi]at hb;(refine eM call212 λF hF=>?_);((refine WW ?_));all_goals (first|exact zK|exact AG|exact CE))
theorem KQ (fx gr:Nat) (c:Int):∀(l:List Int) (i:Nat),(UP fx gr c i l).length<=6*l.length
 | [],i=>by simp[UP]
 |x::r,i=>by
  have h1:=KQ fx gr c r (i+1);have h2:=jR x;rw[UP,zXb,zXb,zXl]
  have h3:(if i=fx/\gr≠0 then [c]else []).length<=1:=by split<;>simp
  omega
def vmF (gr c:Nat) (d:List Int):Bool:=decide (d.length=0/\(gr=0∨1<=c))
theorem BU (k:Int):uH k=0∨uH k=2∨uH k=4:=by
 unfold uH
 repeat' split
 all_goals omega
theorem BV (k:Int):jB k<=3:=by
 unfold jB
 repeat' split
 all_goals omega
theorem zHk (k:Int) (h0:1<=k) (h1:k<=12) (m:Ms) (c:Nat) (hk:m.kind=k) (ht:m.tok.length=10) (hd:m.data.length<=100000) (ha:∀x∈m.args,0<=x/\x<=4294967295) (hc:m.args.length=jB k+c*uH k) (hc3:c<=3):
  zN 84 [zY m] [] (bA (vmF (uH k) c m.data)) []:=by
 have c1:=zHj k h0 h1;have c2:=cY k;have hf:=BV k;rw[zXg ⟨h0,h1⟩]at c2;have c3:=MI k h0 h1 m c hk ht hd ha (by have:=BU k;rcases this with h|h|h<;>rw[h]at hc<;>omega) (λ_=>hc) hc3
 have hpl:(bW (jB k) (uH k) c m).length<=10+(6*m.args.length+(1+m.data.length)):=by
  have h1:=KQ (jB k) (uH k) c m.args 0
  have h3:(if uH k≠0/\m.args.length=jB k then [(0:Int)]else []).length<=1:=by split<;>simp
  unfold bW;rw[zXb,zXb,zXb];omega
 have hlp:=zA yA (bW (jB k) (uH k) c m);have hg:=BU k;subst hk;generalize bW (jB m.kind) (uH m.kind) c m=pl at *;generalize jB m.kind=fx at *;generalize uH m.kind=gr at *;unfold zSa at c1;have hlt:=zA yA m.tok;have hla:=zA iA m.args;have hld:=zA yA m.data
 cases hb:vmF gr c m.data with
 | true=>
  unfold vmF at hb;rw[zXi]at hb;obtain⟨hb1,hb2⟩:=hb
  rcases hg with rfl|rfl|rfl
  ·rw[zW9 rfl,zW9 rfl]at c1;refine eM call84 λF hF=>?_
   refine yO (wW c1 c2) ?_;refine yB (m.args) [1] [1] [1,97,98] [99,1,97,98] rfl (λi pre T U=>⟨(99,iA i)::T,U⟩) ?_;(conv=>whnf);refine⟨by rfl,?_,?_⟩
   ·intro i pre x post hx hi;have hy:=yP iA hx hi;have hlt2:=yF hx hi;have hxr:=ha x (xV hx);clear hx;refine WW ?_;rfl
   ·(refine zU c3 ?_)
    exact zK
  all_goals
   rw[zW8 xL,zW8 xL]at c1;have hm2:(((m.args.map iA).length:Int)-(fx:Int)).tmod ((2:Nat):Int)=0:=by rw[zYn zB];omega
   have hm4:(((m.args.map iA).length:Int)-(fx:Int)).tmod ((4:Nat):Int)=(((m.args.map iA).length:Int)-(fx:Int)) % 4:=zYn zB;refine eM call84 λF hF=>?_
   refine yO (wW c1 c2) ?_;refine yB (m.args) [1] [1] [1,97,98] [99,1,97,98] rfl (λi pre T U=>⟨(99,iA i)::T,U⟩) ?_;(conv=>whnf);refine⟨by rfl,?_,?_⟩
   ·intro i pre x post hx hi;have hy:=yP iA hx hi;have hlt2:=yF hx hi;have hxr:=ha x (xV hx);clear hx;refine WW ?_;rfl
   ·(refine zU c3 ?_)
    exact zK
 | false=>
  unfold vmF at hb;rw[zXu]at hb
  rcases hg with rfl|rfl|rfl
  ·rw[zW9 rfl,zW9 rfl]at c1;have hd0:m.data.length≠0:=λh=>hb ⟨h,.inl rfl⟩
   refine eM call84 λF hF=>?_
   refine yO (wW c1 c2) ?_;exact zK
  all_goals
   rw[zW8 xL,zW8 xL]at c1;have hm2:(((m.args.map iA).length:Int)-(fx:Int)).tmod ((2:Nat):Int)=0:=by rw[zYn zB];omega
   have hm4:(((m.args.map iA).length:Int)-(fx:Int)).tmod ((4:Nat):Int)=(((m.args.map iA).length:Int)-(fx:Int)) % 4:=zYn zB;by_cases hc1:1<=c
   ·have hd0:m.data.length≠0:=λh=>hb ⟨h,.inr hc1⟩
    refine eM call84 λF hF=>?_
    refine yO (wW c1 c2) ?_;exact zK
   ·(refine eM call84 λF hF=>?_)
    refine yO (wW c1 c2) ?_;exact zK
theorem zDd (k:Int) (h0:1<=k) (h1:k<=12) (p:List Int) (hb:BY p) (hn:p.length<=100000):yR [iA k,zD yA p] [] (deT k (p.take 10) (dcF (jB k) (uH k) p)) []:=yG
theorem zDe (l:List Rq) (q:Int) (hv:aC l) (hq:¬(l.length:Int)<=q):zN 269 [zD yK l,iA q] [] (bA false) []:=by
 have hl:=zA yK l;have h4:=hv.n4;refine eM call269 λF hF=>?_
 refine WW ?_;exact zK
theorem zDf (l:List Rq) (q id:Int) (v:Vh) (life:Int) (x:List Lg) (now:Int) (hv:aC l) (hq:¬(l.length:Int)<=q):
  zN 268 [zD yK l,iA q,iA id,vZ v,iA life,zD xU x,iA now] [] (.tup [zD yK [],iA 1]) []:=by
 have c1:=zDe l q hv hq;refine eM call268 λF hF=>?_
 refine zU c1 ?_;exact zK
theorem QS {l:List Rq} {r x:Rq}:x∈bX l r->x=r∨x∈l:=λh=>by
 unfold bX at h
 rcases zXs.1 h with h|h
 ·exact .inr (zY1 h)
 ·rcases zYq.1 h with h|h
  ·exact .inl h
  ·exact .inr (zYl h)
theorem zSb {l:List Rq} {q id life now:Int} {v:Vh} {x:List Lg} (hv:aC l) (he:BX l q id life x=0) (v0:0<=v.id) (v1:v.id<=4294967295) (w0:0<=v.cls) (w1:v.cls<=3) (n0:0<=now) (n1:now<=1073741824):aC (bX l (cZ id v life x now)):=by
 have h1:0<=id/\id<=4294967295/\1<=life/\life<=600/\vgF x=true:=by
  by_cases h:0<=id/\id<=4294967295/\1<=life/\life<=600/\vgF x=true
  ·exact h
  ·rw[BX,zW9 h]at he;cases he
 rw[BX,zW8 (λh=>h h1)]at he
 have hh:hH l id=false:=by
  cases h:hH l id with
  |false=>rfl
  |true=>rw[zW9 h]at he;cases he
 rw[zW8 (by rw[hh];decide)]at he;have hq:¬(q<=l.length∨4<=(l.length:Int)):=λh=>by rw[zW9 h]at he;cases he
 have hno:∀r∈l,r.id≠id:=by simpa [hH]using hh
 have hle:=KS l id;refine⟨λr hr=>?_,?_,?_⟩
 ·rcases QS hr with rfl|hr
  ·exact⟨h1.1,h1.2.1,v0,v1,w0,w1,by show 0<=now+life;omega,by show now+life<=2147483648;omega,h1.2.2.2.2⟩
  ·exact hv.ok r hr
 ·have hs:=hv.so;unfold bX
  show((l.take (TM l id))++cZ id v life x now::l.drop (TM l id)).Pairwise _
  rw[yA8,yBj];have hs2:=hs;rw[<-zZ1 (TM l id) l,yA8]at hs2
  have hlo:∀y∈l.take (TM l id),y.id<id:=λy hy=>by
   obtain⟨i,hi,rfl⟩:=yA7.1 hy;rw[zXw]at hi;have:=zHt (l:=l) (id:=id) (i:=i) zB;rw[List.getElem_take];simpa [List.getD,show i<l.length by omega]using this
  have hhi:∀y∈l.drop (TM l id),id<y.id:=λy hy=>by
   have hne:=hno y (zYl hy);by_cases hk:TM l id<l.length
   ·have h2:=zHu hk;rw[zZ5 hk]at hy;have e:l.getD (TM l id) default=l[TM l id]:=by simp[List.getD,hk]
    rw[e]at h2
    rcases zYq.1 hy with rfl|hy
    ·omega
    ·have hs3:=hs2.2.1;rw[zZ5 hk,yBj]at hs3;have:=hs3.1 y hy;omega
   ·rw[yAw zB]at hy;cases hy
  refine⟨hs2.1,⟨hhi,hs2.2.1⟩,λa ha b hb=>?_⟩
  rcases zYq.1 hb with rfl|hb
  ·exact hlo a ha
  ·have:=hlo a ha;have:=hhi b hb;omega
 ·unfold bX;rw[zXb,zXl,zXw,zYd]
  show min (TM l id) l.length+(l.length-TM l id+1)<=4
  omega
theorem zSc {now:Int} {g:Lg} {p:Int×Int} (hg:KY g=true) (h:okW now g p=true):KY (nwL now g p)=true:=by
 unfold KY at hg;unfold okW mwB at h;rw[zXi]at hg h;unfold KY nwL;rw[zXi];dsimp only;omega
theorem zA9 {now:Int}:∀(gs:List Lg) (w:List (Int×Int)) (pre pre':List Lg),pre'.map (·.jn)=pre.map (·.jn)->w.length=gs.length->(gs.zipWith (okW now) w).all id=true->fQ pre gs=true->fQ pre' (gs.zipWith (nwL now) w)=true
 | [],w,pre,pre',_,_,_,_=>by cases w<;>rfl
 |g::gs,[],pre,pre',_,hl,_,_=>by simp at hl
 |g::gs,p::w,pre,pre',hp,hl,ha,h=>by
  rw[yAq,yDc,zXo]at ha;rw[fQ,zXo,zXo]at h;obtain⟨h1,h2,h3⟩:=h;rw[yAq,fQ,zXo,zXo];refine⟨zSc h1 ha.1,?_,zA9 gs w (pre++[g]) (pre'++[nwL now g p]) (by rw[zXf,zXf,hp];rfl) ES ha.2 h3⟩;have e:∀l:List Lg,(l.any λy=>y.jn==g.jn)=(l.map (·.jn)).any (· ==g.jn):=λl=>by rw[List.any_map];rfl
  show(!(pre'.any λy=>y.jn==g.jn))=true
  rw[e,hp,<-e];exact h2
theorem zSd {l:List Rq} {id now:Int} {w:List (Int×Int)} (hv:aC l) (he:bC l id w now=0):aC (NJ l id w now):=by
 have hh:hH l id=true:=by
  cases h:hH l id with
  |true=>rfl
  |false=>rw[bC,zW8 (by rw[h];decide)]at he;cases he
 obtain⟨pre,x,post,hL,hx,_,hf,_⟩:=MK hh;rw[bC,zW9 hh,hf]at he
 have hw:w.length=x.legs.length/\FO x.legs w now=true:=by
  by_cases h:w.length=x.legs.length/\FO x.legs w now=true
  ·exact h
  ·rw[zW8 h]at he;cases he
 have hxo:=hv.ok x (by rw[hL];simp);rw[zBd hL hv hx];have hs:=hv.so;have h4:=hv.n4;rw[hL]at hs h4;rw[yA8,yBj]at hs;refine⟨λr hr=>?_,?_,by simpa using h4⟩
 ·rw[zXs,zYq]at hr
  rcases hr with hr|rfl|hr
  ·exact hv.ok r (by rw[hL];simp[hr])
  ·refine⟨hxo.i0,hxo.i1,hxo.v0,hxo.v1,hxo.c0,hxo.c1,hxo.t0,hxo.t1,?_⟩;have h1:=KZ hxo.lg
   have h2:fQ [] x.legs=true:=by
    have:=hxo.lg;rw[vgF,zXo]at this;exact this.2
   unfold vgF;rw[zXo];exact⟨zXg (by rw[yBe];omega),zA9 x.legs w [] [] rfl hw.1 hw.2 h2⟩
  ·exact hv.ok r (by rw[hL];simp[hr])
 ·rw[yA8,yBj];refine⟨hs.1,⟨hs.2.1.1,hs.2.1.2⟩,λa ha b hb=>?_⟩
  rcases zYq.1 hb with rfl|hb
  ·exact hs.2.2 a ha x zS
  ·exact hs.2.2 a ha b (by simp[hb])
def YN (l:List Tk):Nat->Int->List Int
 |0,_=>[]
 |n+1,s=>bif fJ l s then s::YN l n (l.getD s.toNat default).par else []
theorem kV (l:List Tk) (k:Nat) (a:Int):YN l (k+1) a=bif fJ l a then a::YN l k (l.getD a.toNat default).par else []:=rfl
theorem XE {l:List Tk} {s:Int} (h:fJ l s=true):0<=s/\s<l.length:=by
 unfold fJ at h;simp only[zXo,zXi]at h;exact h.1
theorem zHl {l:List Tk}:∀(n:Nat) (s x:Int),x∈YN l n s->fJ l x=true
 |0,s,x,h=>by simp[YN]at h
 | n+1,s,x,h=>by
  unfold YN at h
  cases hu:fJ l s<;>rw[hu]at h
  ·simp at h
  ·rw[zYk,zYq]at h
   rcases h with rfl|h
   ·exact hu
   ·exact zHl n _ x h
def zHm (l:List Tk) (s:Int):List (Nat×xN):=[(1003,.box [iA s]),(1004,.box [zD xD l])]
theorem zPq (l:List Tk) (s:Int):zN 209 [zD xD l,iA s] [] (.fn 232 [.ptr 1003 0 0,.ptr 1004 0 0]) (zHm l s):=by
 refine eM call209 λF hF=>?_
 repeat' (first|(refine zE ?_;first|refine uG (kX (v:=AV.sl _ _) 1004 rfl rfl) rfl rfl rfl ?_|refine uG (kX (v:=AV.s _) 1003 rfl rfl) rfl rfl rfl ?_|refine vK tok rfl rfl ?_|refine qC ?_)|(first|refine xS ?_|refine yZ ?_|refine vA rfl ?_|refine zX rfl ?_|refine zQ rfl ?_|refine xJ rfl (λhc=>?_) (λhc=>?_)|refine yX ?_|refine yU ?_|refine xA ?_|refine yS ?_))
 exact zL [1003,1004] rfl rfl rfl rfl
theorem zHn (l:List Tk) (s:Int):YA prog 232 [.ptr 1003 0 0,.ptr 1004 0 0] (zHm l s) ((YN l 8 s).map λx=>[iA x]):=by
 have hl:=zA xD l;refine bP func232 rfl (λargs w=>call232 args w) rfl rfl rfl (λF y hro hit hY=>?_);unfold zHm;refine WW ?_;refine xT (8) [1003,1004] [1003,1004] [0,2] [4,6,1000000,0,2] rfl (λi T U zs=>∃(a:Int) (pre:List Int),(YN l 8 s=pre++YN l (8-i) a/\pre.length=i)/\zs=⟨(4,iA a)::(6,iA i)::(1000000,.gh i)::T,U⟩) ?_;(conv=>whnf);refine⟨?_,?_,?_⟩
 ·exact⟨s,[],⟨rfl,rfl⟩,rfl⟩
 ·rintro i st hi ⟨a,pre,⟨hp,hpl⟩,rfl⟩;have c:=AA l a;obtain⟨k,hk⟩:∃k,8-i=k+1:=⟨7-i,zB⟩;rw[hk,kV l k a]at hp
  cases hu:fJ l a<;>rw[hu]at c hp
  ·rw[zY8,zX8]at hp;refine zU c ?_;exact cS rfl (.inl (by rw[zXa,hp,hpl]))
  ·rw[zYk]at hp;obtain⟨h0,h1⟩:=XE hu;have hy:=yM xD l a h0 h1;have hys:((YN l 8 s).map λx=>[iA x])[i]? =some [iA a]:=by rw[hp];simp[<-hpl]
   have hlen:i<((YN l 8 s).map λx=>[iA x]).length:=(zXv.1 hys).1;generalize ((YN l 8 s).map λx=>[iA x])=xs at *;have hp':YN l 8 s=(pre++[a])++YN l (8-(i+1)) (l.getD a.toNat default).par:=by rw[hp,show 8-(i+1)=k by omega];simp
   generalize l.getD a.toNat default=t at*
   (repeat' (first|refine qA ?_|refine xQ (λhc=>?_) (λhc=>?_)|refine wD (λhc=>?_)|(refine zE ?_;refine wB ?_;first|(first|(refine uI 233 ?_;first|refine xK (zI (c) rfl rfl rfl rfl rfl) rfl ?_|refine uG (zI (c) rfl rfl rfl rfl rfl) rfl rfl rfl ?_|refine aD (zI (c) rfl rfl rfl rfl rfl) rfl rfl rfl ?_))|(refine ZE ?_;refine RO hit hY rfl rfl hys rfl rfl rfl ?_ ?_))|(refine zE ?_;first|refine SM ?_)|fail))
   ·exact⟨t.par,pre++[a],⟨hp',by simp[hpl]⟩,rfl⟩
   ·exact cS rfl (.inr zB)
 ·rintro st ⟨a,pre,⟨hp,hpl⟩,rfl⟩;rw[show YN l (8-8) a=[]from rfl,zX8]at hp;refine WW ?_;exact ZF rfl (.inl (by rw[zXa,hp,hpl]))
def deF (l:List Tk) (s top:Int):Bool:=(YN l 8 s).any λa=>a==top
theorem zHo (l:List Tk) (s top:Int):zN 285 [zD xD l,iA s,iA top] [] (bA (deF l s top)) []:=by
 have c:=zPq l s;unfold zHm at c;refine eM call285 λF hF=>?_
 refine zU c ?_;refine vO hF (zHn l s) rfl [5,6] [5,6] rfl rfl rfl rfl rfl rfl rfl rfl rfl (λi ys h=>?_) (λ_=>[(5,.box [iA top]),(6,.box [.s (.bool false)])]) (λi=>∀x∈(YN l 8 s).take i,x≠top) (T:=[(5,.ptr 5 0 0),(6,.ptr 6 0 0)]) rfl zS (λi ys y hys hI F1 h1 h2=>?_) (λhI=>?_)
 ·rw[zXd,zXn]at h;obtain⟨x,_,rfl⟩:=h;rfl
 ·rw[zXd,zXn]at hys;obtain⟨x,hx,rfl⟩:=hys
  show uC _ F1 _ _ ⟨[(11,iA x),(5,.ptr 5 0 0),(6,.ptr 6 0 0)],[(5,.box [iA top]),(6,.box [.s (.bool false)])]⟩ _
  have hmem:x∈YN l 8 s:=zYt hx;refine WW ?_;refine⟨rfl,λF2 g1 g2=>?_⟩;by_cases ht:x=top
  ·have hd:deF l s top=true:=zYv.2 ⟨x,hmem,by simpa using ht⟩;rw[hd];refine WW ?_;exact zK
  ·(refine WW ?_)
   refine⟨rfl,λz hz=>?_⟩;rw[zZv,hx]at hz;simp only[yCs,zXs,zX9]at hz
   rcases hz with hz|rfl
   ·exact hI z hz
   ·exact ht
 ·rw[zXa,zXe]at hI;have hd:deF l s top=false:=zZ8.2 λx hx=>by simpa using hI x hx
  rw[hd];refine WW ?_;exact zK
def zDg (l:List Tk) (now:Int) (j:Nat):Tk:=if(YN l 8 j).any (λa=>exF (l.getD a.toNat default) now)=true then frT else l.getD j default
def TX (l:List Tk) (now:Int) (s:Nat):List Tk:=(List.range l.length).map λj=>if j<s then zDg l now j else l.getD j default
def NE (l:List Tk) (now:Int):List Tk:=(List.range l.length).map (zDg l now)
theorem KR (l:List Tk) (now:Int) (s:Nat):(TX l now s).length=l.length:=by simp[TX]
theorem zHp (l:List Tk) (now:Int):TX l now 0=l:=by
 unfold TX;apply zYp;intro j;rw[zXd];by_cases h:j<l.length
 ·rw[zX6 h];simp[List.getD,h]
 ·rw[zX0 wQ,zX0 zB];rfl
theorem zM9 (l:List Tk) (now:Int):TX l now l.length=NE l now:=by
 unfold TX NE;apply yAp;intro j hj;rw[zXz]at hj;rw[zW9 hj]
theorem zHq (l:List Tk) (now:Int) (s:Nat) (h:s<l.length):(TX l now s)[s]? =some (l.getD s default):=by
 unfold TX;rw[zXd,zX6 h];simp
theorem zHr (l:List Tk) (now:Int) (s:Nat):TX l now (s+1)=(TX l now s).set s (zDg l now s):=by
 unfold TX;apply zYp;intro j;rw[zZi,zXd,zXd];by_cases h:j<l.length
 ·rw[zX6 h];by_cases hs:s=j
  ·subst hs;simp[h]
  ·rw[zW8 hs];by_cases hj:j<s
   ·simp[hj,show j<s+1 by omega]
   ·simp[hj,show¬j<s+1 by omega]
 ·rw[zX0 wQ]
  split<;>simp;omega
theorem zHs (l:List Tk) (hb:HE l) (now:Int):zN 188 [zD xD l,iA now] [] (zD xD (NE l now)) []:=by
 have c:=XH l hb;have hn:=hb.n;have hll:=zA xD l;refine eM call188 λF hF=>?_
 refine zU c ?_;refine zP ((l.map xD).length) [1001,2,3,5] [2,3,5] [2,3,5,11,18] [12,2,3,5,11,18] rfl (λi T U=>⟨(12,iA i)::T,(1001,.arr 6 ((TX l now i).map xD) false)::U⟩) ?_;(conv=>whnf);refine⟨by(rw[zHp];rfl),?_,?_⟩
 ·intro i hi;have hi':i<l.length:=by omega
  have c1:=zPq l i;unfold zHm at c1;have hy:((TX l now i).map xD)[i]? =some (xD (l.getD i default)):=by rw[zXd,zHq l now i hi'];rfl
  have es:=zHr l now i;have hif:=AB;have hrl:i<((TX l now i).map xD).length:=by rw[zXa,KR];exact hi'
  refine zU c1 ?_
  refine vO hF (zHn l i) rfl [2,3,5,6,1001] [2,3,5,6,11,12] rfl rfl rfl rfl rfl rfl rfl rfl rfl (λk ys h=>?_) (λ_=>[(2,.box [zD xD l]),(3,.box [iA now]),(5,.box [.ref 1001 0 (l.map xD).length]),(6,.box [iA i]),(1001,.arr 6 ((TX l now i).map xD) false)]) (λk=>∀x∈(YN l 8 i).take k,exF (l.getD x.toNat default) now=false)
   (T:=[(2,.ptr 2 0 0),(3,.ptr 3 0 0),(5,.ptr 5 0 0),(6,.ptr 6 0 0),(11,iA (l.map xD).length),(12,iA i)]) rfl zS (λk ys y hys hI F1 h1 h2=>?_) (λhI=>?_)
  ·rw[zXd,zXn]at h;obtain⟨x,_,rfl⟩:=h;rfl
  ·rw[zXd,zXn]at hys;obtain⟨x,hx,rfl⟩:=hys
   show uC _ F1 _ _ ⟨[(18,iA x),(2,.ptr 2 0 0),(3,.ptr 3 0 0),(5,.ptr 5 0 0),(6,.ptr 6 0 0),(11,iA (l.map xD).length),(12,iA i)],[(2,.box [zD xD l]),(3,.box [iA now]),(5,.box [.ref 1001 0 (l.map xD).length]),(6,.box [iA i]),(1001,.arr 6 ((TX l now i).map xD) false)]⟩ _
   have hmem:x∈YN l 8 i:=zYt hx;obtain⟨b1,b2⟩:=XE (zHl _ _ _ hmem);have hy2:=yM xD l x b1 b2;have ce:=ML (l.getD x.toNat default) now;refine WW ?_;refine⟨rfl,λF2 g1 g2=>?_⟩
   cases he:exF (l.getD x.toNat default) now<;>rw[he]at ce
   ·(refine zU ce ?_)
    refine⟨rfl,λz hz=>?_⟩;rw[zZv,hx]at hz;simp only[yCs,zXs,zX9]at hz
    rcases hz with hz|rfl
    ·exact hI z hz
    ·exact he
   ·have e2:(TX l now (i+1)).map xD=((TX l now i).map xD).set i (xD frT):=by
     rw[es,zDg,zW9 (zYv.2 ⟨x,hmem,he⟩),zZh]
    generalize (TX l now i).map xD=xs at *;generalize (TX l now (i+1)).map xD=ys at *;subst e2;refine yO (wW ce hif) ?_;rfl
  ·rw[zXa,zXe]at hI
   have e2:(TX l now (i+1)).map xD=(TX l now i).map xD:=by
    rw[es,zDg,zW8 (by simpa using hI)]
    congr 1
    have:=zHq l now i hi';rw[zXv]at this;obtain⟨h,e⟩:=this;rw[<-e,yCc]
   generalize (TX l now i).map xD=xs at *;generalize (TX l now (i+1)).map xD=ys at *;subst e2;refine WW ?_;rfl
 ·have hl2:(l.map xD).length=((TX l now l.length).map xD).length:=by simp[KR]
  rw[<-zM9];rw[hll]at *; refine WW ?_;exact zH [] rfl rfl (zX7 (AV.sl false) (zXk (by simp[KR]))) rfl
def tkN (a:Ag):List Tk:=⟨true,a.sec,-1,a.rights,a.cls,0⟩::List.replicate 7 frT
def zT:AV:= .agg [.s (.bool false),.s (.slice none 0 0),.s (.int .i64 0),.s (.int .i64 0),.s (.int .i64 0),.s (.int .i64 0)]
def CA (i:Nat):List AV:=List.replicate i (xD frT)++List.replicate (8-i) zT
theorem zSf (i:Nat) (h:i<8):(CA i)[i]? =some zT:=by
 unfold CA;rw[zX2 zS];simp[show 0<8-i by omega]
theorem zNa (i:Nat) (h:i<8):(CA i).set i (xD frT)=CA (i+1):=by
 unfold CA;rw[show 8-i=(8-(i+1))+1 by omega,yAu (n:=8-(i+1)),yAb _ _ zS,zYz,zZo,yBk,yCi (n:=i),zXy];rfl
theorem zSg (a:Ag) (hs:a.sec.length<=1000000):zN 179 [vH a] [] (zD xD (tkN a)) []:=by
 have cf:=AB;have cs:=wA a.sec zB;obtain⟨N,hN⟩:∃N:Nat,N=8:=⟨8,rfl⟩;refine eM call179 λF hF=>?_
 refine WW ?_;refine zP (N) [5,1] [1] [1] [8,7,3,1] rfl (λi T U=>⟨(8,iA i)::(7,iA N)::(3,.ref 5 0 N)::T,(5,.arr 6 (CA i) false)::U⟩) ?_;(conv=>whnf);refine⟨by(rw[hN];rfl),?_,?_⟩
 ·intro i hi;have hy:=zSf i zB;have e:=zNa i zB;have hln:(CA i).length=8:=by unfold CA;simp;omega
  generalize CA i=xs at *;generalize CA (i+1)=ys at *;subst e;unfold zT at hy;refine zU cf ?_;rfl
 ·rw[show CA N=CA 8 by rw[hN]];have hy:(CA 8)[0]? =some (xD frT):=rfl;have e8:(CA 8).set 0 (xD ⟨true,a.sec,-1,a.rights,a.cls,0⟩)=(tkN a).map xD:=rfl;have hln:(CA 8).length=8:=rfl;generalize CA 8=xs at *;unfold xD at hy;refine zU cs ?_;exact zH [] rfl rfl (zX7 (AV.sl false) ((zXk wQ).trans e8)) rfl
def FI (n:Int) (a:Ag):Rg:=⟨n,a,tkN a,[],⟨a.burst,a.rate,a.burst⟩⟩
theorem zSh (n:Int) (a:Ag) (hs:a.sec.length<=1000000) (hl:a.lim.length<=1000000):zN 144 [iA n,vH a] [] (uW (FI n a)) []:=by
 have c1:=FT a hs hl;have c2:=zSg a hs;have c3:=zSp a.rate a.burst;unfold FI;generalize tkN a=tk at *;refine eM call144 λF hF=>?_
 refine yO (gU c1 c2 c3) ?_;exact zK
theorem aR (g s:Int) (l:List Int) (hl:l.length<=1000000) (g0:0<=g) (g1:g<256) (s0:0<=s) (s1:s<256):zN 46 [iA g,iA s,zD yA l] [] (zD yA (g::s::l)) []:=by
 have hll:=zA yA l;refine eM call46 λF hF=>?_
 refine WW ?_;exact zH [] rfl rfl (zX7 (AV.sl false) (zXk zS)) rfl
theorem zSi (a b:List Int):zN 256 [zD yA a,zD yA b] [] (bA (eqY a b)) []:=by
 refine eM call256 λF hF=>?_
 refine WW ?_;exact zK
def zNb (l:List Tk) (b:List Int):Tk:=l.getD (b.getD 1 default).toNat default
def ckB (l:List Tk) (g:Int) (b:List Int) (k now:Int):Bool:=decide ((b.length:Int)=10/\b.getD 0 default=g)&&fJ l (b.getD 1 default)&&(eqY (b.drop 2) (zNb l b).sec&& !exF (zNb l b) now&&peF (zNb l b).rights k)
theorem zNc (l:List Tk) (g:Int) (b:List Int) (k now:Int) (hb:BY b):zN 234 [zD xD l,iA g,zD yA b,iA k,iA now] [] (.tup [iA (if ckB l g b k now=true then b.getD 1 default else 0),iA (if ckB l g b k now=true then 0 else 9)]) []:=by
 have hll:=zA yA b;have hlt:=zA xD l;by_cases h1:(b.length:Int)=10
 case neg=>
  have e:ckB l g b k now=false:=by unfold ckB;rw[zXj (λh=>h1 h.1)];rfl
  rw[e];refine eM call234 λF hF=>?_
  refine WW ?_;exact zK
 have hy0:=yM yA b 0 zB zB;have hy1:=yM yA b 1 zB zB;have b0:0<=b.getD 0 default/\b.getD 0 default<256:=hb _ zP0;have b1:0<=b.getD 1 default/\b.getD 1 default<256:=hb _ zP0
 change (b.map yA)[0]? =some (yA (b.getD 0 default))at hy0
 change (b.map yA)[1]? =some (yA (b.getD 1 default))at hy1
 unfold ckB zNb;generalize b.getD 0 default=x0 at *;generalize b.getD 1 default=x1 at *;by_cases h2:x0=g
 case neg=>
  rw[zXj (λh=>h2 h.2)];refine eM call234 λF hF=>?_
  refine WW ?_;exact zK
 rw[zXg ⟨h1,h2⟩];have cu:=AA l x1;cases hu:fJ l x1
 ·rw[hu]at cu;refine eM call234 λF hF=>?_
  refine zU cu ?_;exact zK
 rw[hu]at cu;obtain⟨u0,u1⟩:=XE hu;have hyt:=yM xD l x1 u0 u1;generalize l.getD x1.toNat default=t at *;have ce:=zSi (b.drop 2) t.sec;have cx:=ML t now;have cp:=zDj t.rights k;generalize eqY (b.drop 2) t.sec=q1 at *;generalize exF t now=q2 at *;generalize peF t.rights k=q3 at*
 cases q1<;>cases q2<;>cases q3<;>((refine eM call234 λF hF=>?_);(refine yO (aB cu ce cx cp) ?_);exact zK)
def rgZ:Rg:=⟨0,⟨[],0,0,[],0,0,0,0⟩,[],[],⟨0,0,0⟩⟩
def MJ (k:Int):Bool:=decide (2<=k/\k<=8)
def opE (r:Rg) (m:Ms) (now:Int):Int:=if ckB r.tk r.num m.tok m.kind now=true then(if MJ m.kind=true/\r.bk.level<=0 then 13 else 0)else 9
def opR (r:Rg) (m:Ms) (now:Int):Rg:=if opE r m now=0 then(if MJ m.kind=true then⟨r.num,r.ag,r.tk,r.vh,FR r.bk⟩else r)else rgZ
def opS (r:Rg) (m:Ms) (now:Int):Int:=if opE r m now=0 then m.tok.getD 1 default else 0
theorem zSj (r:Rg) (m:Ms) (now:Int) (hr:FU r) (hm:BY m.tok) (hl:r.bk.level<=1000000):zN 213 [uW r,zY m,iA now] [] (.tup [uW (opR r m now),iA (opS r m now),iA (opE r m now)]) []:=by
 have c1:=zNc r.tk r.num m.tok m.kind now hm;have c2:=eW r hr;have c3:=zNs r.bk zB;unfold opR opS opE
 cases hc1:ckB r.tk r.num m.tok m.kind now<;>rw[hc1]at c1
 ·(refine eM call213 λF hF=>?_)
  refine zU c1 ?_;exact zK
 ·generalize m.tok.getD 1 default=slot at *;cases hk:MJ m.kind
  ·have hk':¬(2<=m.kind/\m.kind<=8):=of_decide_eq_false hk;refine eM call213 λF hF=>?_
   refine yO (wW c1 c2) (I2 (λhc=>?_) (λhc=>?_))
   all_goals (first|exact AG|exact zK)
  ·have hk':2<=m.kind/\m.kind<=8:=yBp hk;by_cases hv:r.bk.level<=0
   ·rw[zXj zB]at c3;simp only[hv,and_self,yCy];refine eM call213 λF hF=>?_
    refine yO (gU c1 c2 c3) ?_;exact zK
   ·rw[zXg zB]at c3;simp only[hv,yDf,if_false,yCy];generalize hb:FR r.bk=b2 at *;refine eM call213 λF hF=>?_
    refine yO (gU c1 c2 c3) ?_;exact zK
def rtF (r:Rg) (now:Int):Rg:=⟨r.num,r.ag,NE r.tk now,r.vh,btF r.bk⟩
theorem zNd (r:Rg) (now:Int) (hr:FU r) (hl: -1000000<=r.bk.level+r.bk.rate/\r.bk.level+r.bk.rate<=1000000):zN 156 [uW r,iA now] [] (uW (rtF r now)) []:=by
 have c1:=eW r hr;have c2:=zHs r.tk hr.tk now;have c3:=zNr r.bk zB;unfold rtF;generalize NE r.tk now=tk at *;generalize btF r.bk=bk at *;refine eM call156 λF hF=>?_
 refine yO (gU c1 c2 c3) ?_;exact zK
theorem BW (l:List Tk) (hb:HE l):yR [zD xD l] [] (.ref 1001 0 (l.map xD).length) [(1001,.arr 6 (l.map xD) false)]:=yG
theorem RH (r:Rg) (hb:FU r):yR [uW r] [] (uW r) []:=yG
end Av
end Go.Proofs.YtmamjhmoegjapaaGreat
