/- Part 15. -/
import Derived.Test.YtmamjhmoegjapaaGreatP14
import Derived.Test.YtmamjhmoegjapaaGreatP13
import Derived.Test.YtmamjhmoegjapaaGreatP09
namespace Go.Proofs.YtmamjhmoegjapaaGreat
namespace Av
open Tryz
set_option linter.unusedSimpArgs false
set_option linter.unusedVariables false
set_option linter.unusedSectionVars false
set_option maxRecDepth 4000
set_option maxHeartbeats 2000000
theorem zI6:∀(r:List Int) (i:Nat) (n:Int),BY r->0<=n->(SH r i n=(0,0,6))∨((SH r i n).2.2=0/\0<=(SH r i n).1/\(SH r i n).1<=4294967295/\(i:Int)+1<=(SH r i n).2.1/\(SH r i n).2.1<=i+r.length)
 | [],i,n,_,_=> .inl rfl
 | x::r,i,n,hb,hn=>by
  have hx:=hb x zS
  have hp:0<=n+x.tmod 128*128 ^ i:=by
   have h1:0<=x.tmod 128:=by rw[zZu hx.1];omega
   have h2:(0:Int)<=128 ^ i:=Int.pow_nonneg zB;have:=Int.mul_nonneg h1 h2;omega
  rw[SH];by_cases h5:i=5
  ·exact .inl (zX1 h5)
  rw[zX0 h5];by_cases h1:128<=x
  ·rw[zX1 h1]
   rcases zI6 r (i+1) (n+x.tmod 128*128 ^ i) (λy hy=>hb y (by simp[hy])) hp with h|⟨a,b,c,d,e⟩
   ·exact .inl h
   ·refine .inr ⟨a,b,c,zB,?_⟩;rw[zYd];omega
  ·rw[zX0 h1];by_cases h2:4294967295<n+x.tmod 128*128 ^ i∨(0<i/\x=0)
   ·exact .inl (zX1 h2)
   ·rw[zX0 h2];refine .inr ⟨rfl,hp,zB,zZ8 _,?_⟩
    show(i:Int)+1<=_
    rw[zYd];omega
theorem zAb (b:List Int) (hb:BY b):ZD b=(0,0,6)∨((ZD b).2.2=0/\0<=(ZD b).1/\(ZD b).1<=4294967295/\1<=(ZD b).2.1/\(ZD b).2.1<=b.length):=by
 have:=zI6 b 0 0 hb (zZ8 _)
 rcases this with h|⟨a,b,c,d,e⟩
 ·exact .inl h
 ·exact .inr ⟨a,b,c,by have:(0:Int)+1<=(ZD _).2.1:=d;omega,by have:(ZD _).2.1<=(0:Int)+_:=e;omega⟩
def RC:Nat->List Int->Option (List Int×List Int)
 |0,b=>some ([],b)
 |n+1,b=>if(ZD b).2.2=0 then(match RC n (b.drop (ZD b).2.1.toNat)with|none=>none|some (l,r)=>some ((ZD b).1::l,r))else none
def nbG (l:List Int):Option (List Int×List Int)->Option (List Int×List Int)
 |none=>none
 |some (k,r)=>some (l++k,r)
theorem zCb (o:Option (List Int×List Int)):nbG [] o=o:=by
 cases o with
 |none=>rfl
 |some p=>rfl
theorem zI7 {l b:List Int} {n:Nat} (h:(ZD b).2.2≠0):nbG l (RC (n+1) b)=none:=by
 rw[RC,zX0 h];rfl
theorem zI8 {l b:List Int} {n:Nat} (h:(ZD b).2.2=0):nbG l (RC (n+1) b)=nbG (l++[(ZD b).1]) (RC n (b.drop (ZD b).2.1.toNat)):=by
 rw[RC,zX1 h]
 cases RC n (b.drop (ZD b).2.1.toNat)with
 |none=>rfl
 |some p=>obtain⟨k,r⟩:=p;simp[nbG]
def nbT:Option (List Int×List Int)->AV
 |none=> .tup [zD iA [],zD yA [],bA false]
 |some (l,r)=> .tup [zD iA l,zD yA r,bA true]
theorem TF (b:List Int) (n:Nat) (hb:BY b) (hbn:b.length<=100000) (hn:n<=1000):zN 135 [zD yA b,iA n] [] (nbT (RC n b)) []:=by
 refine eM call135 λF hF=>?_
 refine WW ?_;refine uL 12 rfl ?_;refine xV (n) [12] [] [13] [0,7,14,13] rfl (λi T U zs=>∃acc c,(acc.length=i/\BY c/\c.length<=100000/\RC n b=nbG acc (RC (n-i) c))/\zs=⟨(0,zD yA c)::(7,.ref 12 0 (acc.map iA).length)::(14,iA i)::T,(12,.arr 1 (acc.map iA) true)::U⟩) ?_;(conv=>whnf);refine⟨?_,?_,?_⟩
 ·exact⟨[],b,⟨rfl,hb,hbn,by rw[zCb];rfl⟩,rfl⟩
 ·rintro i st hi ⟨acc,c,⟨q0,q1,q2,q3⟩,rfl⟩;have hd:=zWq c q1 q2;have hl:=zA yA c;have hla:=zA iA acc;rw[show n-i=(n-(i+1))+1 by omega]at q3
  rcases zAb c q1 with h|⟨h1,h2,h3,h4,h5⟩
  ·rw[q3,zI7 (by rw[h];decide)];rw[h]at hd;clear q3 h
   show uG _ _ _ _ _ (WR (inB 0 (LT _ _ _ _ (Fin _ _ [] (.tup [zD iA [],zD yA [],bA false]) []))) _)
   refine zU hd ?_;exact zJ
  ·rw[zI8 h1]at q3;rw[h1]at hd;have hbd:BY (c.drop (ZD c).2.1.toNat):=λy hy=>q1 y (zZe hy)
   have hcd:(c.drop (ZD c).2.1.toNat).length<=100000:=by rw[zY4];omega
   clear h1;rw[q3];generalize (ZD c).1=v at *;generalize (ZD c).2.1=k at *;refine zU hd ?_;refine⟨acc++[v],c.drop k.toNat,⟨by simp[q0],hbd,hcd,rfl⟩,?_⟩;rw[zYc];rfl
 ·rintro st ⟨acc,c,⟨q0,q1,q2,q3⟩,rfl⟩;rw[q3,yAe]
  show uG _ _ _ _ _ (WR (inB 0 (LT _ _ _ _ (Fin _ _ [] (.tup [zD iA (acc++[]),zD yA c,bA true]) []))) _)
  rw[zY5];refine WW ?_;exact zI [] rfl rfl (zY0 (λz=>AV.tup [z,zD yA c,bA true]) (bM _ _)) rfl
def enR:Nat->Int->List Int
 |0,n=>[n]
 |f+1,n=>if n<128 then [n]else(n % 128+128)::enR f (n/128)
def cM (n:Int):List Int:=enR 4 n
theorem zAc {n:Int} {z:Nat} (h:n<128 ^ (z+1+1)):n/128<128 ^ (z+1):=Int.ediv_lt_of_lt_mul yZ (by rw[yDn]at h;exact h)
theorem PW {f:Nat} {n:Int} (h:n<128):enR f n=[n]:=by
 cases f with
 |zero=>rfl
 |succ f=>exact zX1 h
theorem ID {f:Nat} {n:Int} (h:128<=n):enR (f+1) n=(n % 128+128)::enR f (n/128):=zX0 zB
theorem zWl (n:Int) (h0:0<=n) (h1:n<=4294967295):zN 174 [iA n] [] (.tup [zD yA (cM n),iA 0]) []:=by
 have cs:=zJq n
 have hsz:1<=szF n:=by
  rw[zJp h0 h1];unfold lgF
  repeat' split
  all_goals omega
 generalize szF n=s at *;generalize hR:cM n=R;refine eM call174 λF hF=>?_
 refine zU cs ?_;refine xC 4 1001 1 rfl rfl rfl ?_;refine fF (4) [1001] [] [] [0,4] rfl (λzn T U zs=>∃(m:Int) (acc:List Int),(0<=m/\m<=4294967295/\m<128 ^ (zn+1)/\acc.length+zn=4/\acc++enR zn m=R)/\zs=⟨(0,iA m)::(4,.ref 1001 0 (acc.map yA).length)::T,(1001,.arr 1 (acc.map yA) true)::U⟩) ?_;(conv=>whnf);refine⟨?_,?_⟩
 ·exact⟨n,[],⟨h0,h1,by show n<34359738368;omega,rfl,hR⟩,rfl⟩
 ·rintro zn st ⟨m,acc,⟨q0,q1,q2,q3,q4⟩,rfl⟩;have hla:=zA yA acc;by_cases hm:128<=m
  ·obtain⟨z,rfl⟩:∃z,zn=z+1:=by
    cases zn with
    |zero=>exfalso;have:m<128:=q2;omega
    |succ z=>exact⟨z,rfl⟩
   rw[ID hm]at q4;have hd:=zAc q2;have ht:m.tmod 128=m % 128:=zZu q0;have hmd:m.tdiv 128=m/128:=zZt q0;have hir:XC .i64 (m.tdiv 128):=⟨zB,zB⟩;clear q2;refine WW ?_;refine⟨z,zB,m.tdiv 128,acc++[m.tmod 128+128],⟨zB,zB,by rw[hmd];exact hd,by simp;omega,by rw[hmd,ht,zYv];exact q4⟩,?_⟩;rw[zYc];rfl
  ·rw[PW zB]at q4;clear q2;subst q4;refine WW ?_;refine zI [] rfl rfl ?_ rfl
   show AV.tup [AV.sl false ((acc.map yA++[yA m]).take (acc.map yA++[yA m]).length),iA 0]=_
   rw[zX7];unfold zD;rw[zYc];rfl
theorem zOe {n:Int} (h0:0<=n) (h1:n<=4294967295):jU n 127=n % 128:=by
 obtain⟨a,rfl⟩:=yBc h0;unfold jU;rw[show BitVec.ofInt IntKind.i64.bits (a:Int)=BitVec.ofNat IntKind.i64.bits a from yBw ..];rw[show BitVec.ofInt IntKind.i64.bits (127:Int)=BitVec.ofNat IntKind.i64.bits 127 from rfl];rw[BitVec.toNat_and,yBp,yBp,yAt (show a<2 ^ IntKind.i64.bits by show a<18446744073709551616;omega),yAt (show 127<2 ^ IntKind.i64.bits by decide)];have e:a &&& 127=a % 128:=Nat.and_two_pow_sub_one_eq_mod a 7;rw[e];exact kF (k:= .i64) (by unfold XC;omega)
theorem zWm:∀k:_root_.Fin 128,IntKind.u8.wrap (BitVec.ofInt IntKind.u8.bits (k.val:Int) ||| BitVec.ofInt IntKind.u8.bits 128).toNat=(k.val:Int)+128:=by decide +kernel
section
variable {P:Program} {tm:List (Nat×AV)} {h:List (Nat×xN)} {tx ty:Nat} {x y:Operand}
theorem zOf {m:Int} (hx:yN (zG tm) x= .s (.int .u8 m)) (hy:yN (zG tm) y= .s (.int .u8 128)) (h0:0<=m/\m<128):wR P ⟨tm,h⟩ (.binOp .or tx x y ty) (.s (.int .u8 (m+128))) [] [] []:=by
 have e:=zWm ⟨m.toNat,zB⟩;simp only[show((m.toNat:Nat):Int)=m by omega]at e;rw[<-e];exact HM hx hy
end
theorem zWn (n:Int) (h0:0<=n) (h1:n<=4294967295):zN 126 [iA n] [] (.tup [zD yA (cM n),iA 0]) []:=by
 generalize hR:cM n=R;refine eM call126 λF hF=>?_
 refine WW ?_;refine uL 11 rfl ?_;refine fF (4) [11] [] [] [0,4] rfl (λzn T U zs=>∃(m:Int) (acc:List Int),(0<=m/\m<=4294967295/\m<128 ^ (zn+1)/\acc.length+zn=4/\acc++enR zn m=R)/\zs=⟨(0,iA m)::(4,.ref 11 0 (acc.map yA).length)::T,(11,.arr 1 (acc.map yA) true)::U⟩) ?_;(conv=>whnf);refine⟨?_,?_⟩
 ·exact⟨n,[],⟨h0,h1,by show n<34359738368;omega,rfl,hR⟩,rfl⟩
 ·rintro zn st ⟨m,acc,⟨q0,q1,q2,q3,q4⟩,rfl⟩;have hla:=zA yA acc;by_cases hm:128<=m
  ·obtain⟨z,rfl⟩:∃z,zn=z+1:=by
    cases zn with
    |zero=>exfalso;have:m<128:=q2;omega
    |succ z=>exact⟨z,rfl⟩
   rw[ID hm]at q4;have hd:=zAc q2;have ha:=zOe q0 q1;have hab:0<=jU m 127/\jU m 127<128:=by omega
   have hs:uB m 7=m/128:=yBh m yZ;clear q2
   (repeat' (first|refine qB ?_|refine xO (λhc=>?_) (λhc=>?_)|refine wB (λhc=>?_)|(refine zE ?_;first|(refine wW ?_;refine xI (zOf rfl rfl hab) rfl ?_)|refine SM ?_)|fail))
   refine⟨z,zB,uB m 7,acc++[jU m 127+128],⟨zB,zB,by rw[hs];exact hd,by simp;omega,by rw[hs,ha,zYv];exact q4⟩,?_⟩;rw[zYc];rfl
  ·rw[PW zB]at q4;clear q2;subst q4;refine WW ?_;refine zI [] rfl rfl ?_ rfl
   show AV.tup [AV.sl false ((acc.map yA++[yA m]).take (acc.map yA++[yA m]).length),iA 0]=_
   rw[zX7];unfold zD;rw[zYc];rfl
theorem EU:∀(r:List Int) (i:Nat) (n:Int),BY r->i<=5->(SH r i n).2.2=0->∃q:Int,0<=q/\(SH r i n).1=n+q*128 ^ i/\(0<i->0<q)/\i<=4/\∃j:Nat,(SH r i n).2.1=((i+j:Nat):Int)/\enR (4-i) q=r.take j
 | [],i,n,_,_,h=>by exact absurd (show(6:Int)=0 from h) yZ
 | x ::r,i,n,hb,h5,h=>by
  have hx:=hb x zS;by_cases hi:i=5
  ·exfalso;rw[SH,zX1 hi]at h;exact absurd (show(6:Int)=0 from h) yZ
  by_cases hx1:128<=x
  ·have e:SH (x::r) i n=SH r (i+1) (n+x.tmod 128*128 ^ i):=by rw[SH,zX0 hi,zX1 hx1]
   rw[e]at h⊢;obtain⟨q,q0,q1,q2,q3,j,q4,q5⟩:=EU r (i+1) _ (λy hy=>hb y (by simp[hy])) zB h;have ht:x.tmod 128=x % 128:=zZu hx.1;have hq:=q2 zB;refine⟨x.tmod 128+q*128,zB,?_,λ_=>by omega,zB,j+1,by rw[q4];omega,?_⟩
   ·rw[q1,yDn,Int.add_mul,Int.mul_assoc,Int.mul_comm 128,Int.add_assoc]
   ·obtain⟨f,hf⟩:∃f,4-i=f+1:=⟨3-i,zB⟩;rw[hf,ID zB,yDb,<-q5,show 4-(i+1)=f by omega]
    congr 1
    ·omega
    ·congr 1
     omega
  ·have hxm:x.tmod 128=x:=by rw[zZu hx.1];omega
   have e:SH (x::r) i n=if 4294967295<n+x.tmod 128*128 ^ i∨(0<i/\x=0)then(0,0,6)else(n+x.tmod 128*128 ^ i,(i:Int)+1,0):=by rw[SH,zX0 hi,zX0 hx1]
   rw[e]at h⊢;by_cases hbad:4294967295<n+x.tmod 128*128 ^ i∨(0<i/\x=0)
   ·rw[zX1 hbad]at h;exact absurd (show(6:Int)=0 from h) yZ
   ·rw[zX0 hbad,hxm];refine⟨x,hx.1,rfl,λh0=>?_,zB,1,by show(i:Int)+1=_;omega,?_⟩
    ·have:x≠0:=λh=>hbad (.inr ⟨h0,h⟩)
     omega
    ·rw[PW zB];rfl
theorem zI9 {b:List Int} (hb:BY b) (h:(ZD b).2.2=0):cM (ZD b).1=b.take (ZD b).2.1.toNat:=by
 obtain⟨q,_,q1,_,_,j,q4,q5⟩:=EU b 0 0 hb zB h
 have e1:(ZD b).1=q:=by
  show(SH b 0 0).1=q
  rw[q1];simp
 have e2:(ZD b).2.1.toNat=j:=by
  show(SH b 0 0).2.1.toNat=j
  rw[q4];simp
 rw[e1,e2];exact q5
theorem XZ:∀(n:Nat) (b l r:List Int),BY b->RC n b=some (l,r)->l.length=n/\BY r/\(∀x∈l,0<=x/\x<=4294967295)/\b=(l.map cM).flatten++r
 |0,b,l,r,hb,h=>by
  cases h;exact⟨rfl,hb,by simp,rfl⟩
 | n +1,b,l,r,hb,h=>by
  rw[RC]at h;by_cases he:(ZD b).2.2=0
  ·rw[zX1 he]at h
   rcases zAb b hb with h0|⟨_,h2,h3,h4,h5⟩
   ·rw[h0]at he;exact absurd (show(6:Int)=0 from he) yZ
   cases hn:RC n (b.drop (ZD b).2.1.toNat)with
   |none=>rw[hn]at h;cases h
   | some p=>
    obtain⟨l',r'⟩:=p;rw[hn]at h;cases h;obtain⟨g1,g2,g3,g4⟩:=XZ n _ l' r (λy hy=>hb y (zZe hy)) hn;refine⟨by simp[g1],g2,λx hx=>?_,?_⟩
    ·rcases zZi.1 hx with rfl|hx
     ·exact⟨h2,h3⟩
     ·exact g3 x hx
    ·rw[zZl,yA5,zI9 hb he,zYv,<-g4,yA9]
  ·rw[zX0 he]at h;cases h
theorem EV (b:List Int) (n:Nat) (l r:List Int) (hb:BY b) (hbn:b.length<=100000) (hn:n<=1000) (hok:RC n b=some (l,r)):zN 135 [zD yA b,iA n] [] (.tup [.ref 1001 0 (l.map iA).length,zD yA r,bA true]) [(1001,.arr 1 (l.map iA) true)]:=by
 refine eM call135 λF hF=>?_
 (repeat' (first|refine qB ?_|refine xO (λhc=>?_) (λhc=>?_)|refine wB (λhc=>?_)|(refine zE ?_;first|(refine gU ?_;refine cK 1001 tok rfl rfl rfl rfl rfl rfl rfl rfl rfl rfl rfl rfl rfl zB zB rfl rfl rfl ?_))|fail))
 refine uL 1001 rfl ?_;refine xV (n) [1001] [] [13] [0,7,14,13] rfl (λi T U zs=>∃acc c,(acc.length=i/\BY c/\c.length<=100000/\RC n b=nbG acc (RC (n-i) c))/\zs=⟨(0,zD yA c)::(7,.ref 1001 0 (acc.map iA).length)::(14,iA i)::T,(1001,.arr 1 (acc.map iA) true)::U⟩) ?_;(conv=>whnf);refine⟨?_,?_,?_⟩
 ·exact⟨[],b,⟨rfl,hb,hbn,by rw[zCb];rfl⟩,rfl⟩
 ·rintro i st hi ⟨acc,c,⟨q0,q1,q2,q3⟩,rfl⟩;have hd:=zWq c q1 q2;have hl:=zA yA c;have hla:=zA iA acc;rw[show n-i=(n-(i+1))+1 by omega]at q3
  rcases zAb c q1 with h|⟨h1,h2,h3,h4,h5⟩
  ·rw[zI7 (by rw[h];decide),hok]at q3;cases q3
  ·rw[zI8 h1]at q3;rw[h1]at hd;have hbd:BY (c.drop (ZD c).2.1.toNat):=λy hy=>q1 y (zZe hy)
   have hcd:(c.drop (ZD c).2.1.toNat).length<=100000:=by rw[zY4];omega
   clear h1;generalize (ZD c).1=v at *;generalize (ZD c).2.1=k at *;refine zU hd ?_;refine⟨acc++[v],c.drop k.toNat,⟨by simp[q0],hbd,hcd,q3⟩,?_⟩;rw[zYc];rfl
 ·rintro st ⟨acc,c,⟨q0,q1,q2,q3⟩,rfl⟩;rw[yAe,hok]at q3;have e:(l,r)=(acc++[],c):=yAj q3;rw[zY5]at e;cases e;refine WW ?_;exact zL [1001] rfl rfl rfl rfl
def jK (k:Int):Nat:=if k=2∨k=6 then 3 else if k=4 then 2 else if k=1∨k=9∨k=12 then 0 else 1
def uP (k:Int):Nat:=if k=6 then 4 else if k=7 then 2 else 0
def shA (fx gr:Nat):AV:= .agg [iA 10,iA fx,iA gr,iA (if gr=0 then 0 else 1),iA (if gr=0 then 0 else 3),iA 0]
theorem zEa (k:Int) (h0:1<=k) (h1:k<=12):zN 124 [iA k] [] (.tup [shA (jK k) (uP k),bA true]) []:=by
 obtain rfl|rfl|rfl|rfl|rfl|rfl|rfl|rfl|rfl|rfl|rfl|rfl:k=1∨k=2∨k=3∨k=4∨k=5∨k=6∨k=7∨k=8∨k=9∨k=10∨k=11∨k=12:=by omega
 all_goals (refine eM call124 λF hF=>?_)
 all_goals (refine WW ?_)
 all_goals exact zJ
def dcF (fx gr:Nat) (p:List Int):Option (List Int):=
 if 200<p.length∨p.length<10 then none else match RC fx (p.drop 10)with
 |none=>none
 | some (a,r)=>if gr=0 then(if r=[]then some a else none)else match RC 1 r with
  |none=>none
  |some (c,r2)=>if c.getD 0 0<1∨3<c.getD 0 0 then none else match RC ((c.getD 0 0).toNat*gr) r2 with
   |none=>none
   |some (f,r3)=>if r3=[]then some (a++f)else none
def deT (k:Int) (tok:List Int):Option (List Int)->AV
 |none=> .tup [yE ⟨0,[],[],[]⟩,iA 6]
 |some a=> .tup [yE ⟨k,tok,a,[]⟩,iA 0]
theorem zJa (k:Int) (h0:1<=k) (h1:k<=12) (p:List Int) (hb:BY p) (hn:p.length<=100000):zN 80 [iA k,zD yA p] [] (deT k (p.take 10) (dcF (jK k) (uP k) p)) []:=by
 have hl:=zA yA p;have c1:=zEa k h0 h1
 have hf:jK k<=3:=by
  unfold jK
  repeat' split
  all_goals omega
 have hg:uP k=0∨(2<=uP k/\uP k<=4):=by
  unfold uP
  repeat' split
  all_goals omega
 generalize jK k=fx at *;generalize uP k=gr at *;unfold shA at c1;by_cases hlen:200<p.length∨p.length<10
 ·rw[show dcF fx gr p=none from zX1 hlen]
  show zN 80 [iA k,zD yA p] [] (.tup [yE ⟨0,[],[],[]⟩,iA 6]) []
  by_cases h2:200<p.length
  ·(refine eM call80 λF hF=>?_)
   refine zU c1 ?_;exact zJ
  ·have h3:=hlen.resolve_left h2;refine eM call80 λF hF=>?_
   refine zU c1 ?_;exact zJ
 have e0:dcF fx gr p=_:=zX0 hlen;rw[e0];clear e0;have hbd:BY (p.drop 10):=λy hy=>hb y (zZe hy)
 have hdl:(p.drop 10).length<=100000:=by rw[zY4];omega
 have c2:=TF (p.drop 10) fx hbd hdl zB
 cases hnb:RC fx (p.drop 10)with
 |none=>
  rw[hnb]at c2
  show zN 80 [iA k,zD yA p] [] (.tup [yE ⟨0,[],[],[]⟩,iA 6]) []
  unfold nbT at c2;refine eM call80 λF hF=>?_
  refine yQ (wZ c1 c2) ?_;exact zJ
 |some q=>
 obtain⟨a,r⟩:=q;obtain⟨ha,hbr,har,hsp⟩:=XZ _ _ _ _ hbd hnb
 have hrl:r.length<=100000:=by
  have:=zY0 List.length hsp;rw[zX3]at this;omega
 have hlr:=zA yA r;have hla:=zA iA a;have k1:=vB (p.take 10) (by rw[zYo];omega)
 rcases hg with rfl|⟨g2,g4⟩
 ·rw[hnb]at c2;unfold nbT at c2;dsimp only;rw[zX1 rfl];by_cases hr:r=[]
  ·subst hr;have k2:=vB [] zS;rw[zX1 rfl]
   show zN 80 [iA k,zD yA p] [] (.tup [yE ⟨k,p.take 10,a,[]⟩,iA 0]) []
   refine eM call80 λF hF=>?_
   refine yQ (aB c1 c2 k1 k2) ?_;exact zJ
  ·have hr0:r.length≠0:=λh=>hr (zY1 h)
   rw[zX0 hr]
   show zN 80 [iA k,zD yA p] [] (.tup [yE ⟨0,[],[],[]⟩,iA 6]) []
   refine eM call80 λF hF=>?_
   refine yQ (wZ c1 c2) ?_;exact zJ
 have c2o:=EV (p.drop 10) fx a r hbd hdl zB hnb;have c3:=TF r 1 hbr hrl zB;clear c2;dsimp only;rw[zX0 zB]
 cases hnc:RC 1 r with
 |none=>
  rw[hnc]at c3;unfold nbT at c3
  show zN 80 [iA k,zD yA p] [] (.tup [yE ⟨0,[],[],[]⟩,iA 6]) []
  refine eM call80 λF hF=>?_
  refine yQ (fB c1 c2o c3) ?_;exact zJ
 |some q2=>
 obtain⟨c,r2⟩:=q2;obtain⟨hc1,hbr2,hcr,hsp2⟩:=XZ _ _ _ _ hbr hnc
 obtain⟨v,rfl⟩:∃v,c=[v]:=by
  cases c with
  |nil=>cases hc1
  |cons v c=>cases c with
   |nil=>exact⟨v,rfl⟩
   |cons w c=>simp at hc1
 have hrl2:r2.length<=100000:=by
  have:=zY0 List.length hsp2;rw[zX3]at this;omega
 rw[hnc]at c3;unfold nbT at c3;dsimp only;rw[show [v].getD 0 0=v from rfl];by_cases hv:v<1∨3<v
 ·rw[zX1 hv]
  show zN 80 [iA k,zD yA p] [] (.tup [yE ⟨0,[],[],[]⟩,iA 6]) []
  by_cases hv1:v<1
  ·(refine eM call80 λF hF=>?_)
   refine yQ (fB c1 c2o c3) ?_;exact zJ
  ·have hv2:=hv.resolve_left hv1;refine eM call80 λF hF=>?_
   refine yQ (fB c1 c2o c3) ?_;exact zJ
 rw[zX0 hv];have hvg:v.toNat*gr<=12:=zY8 (yA4 (show v.toNat<=3 by omega) g4) yZ;have evg:((v.toNat*gr:Nat):Int)=v*(gr:Int):=by rw[Int.natCast_mul,yC8 zB]
 have c4:=TF r2 (v.toNat*gr) hbr2 hrl2 zB;rw[evg]at c4;have hm:0<=v*(gr:Int)/\v*(gr:Int)<=12:=by rw[<-evg];omega
 clear evg
 cases hnd:RC (v.toNat*gr) r2 with
 |none=>
  rw[hnd]at c4;unfold nbT at c4
  show zN 80 [iA k,zD yA p] [] (.tup [yE ⟨0,[],[],[]⟩,iA 6]) []
  refine eM call80 λF hF=>?_
  refine yQ (aB c1 c2o c3 c4) ?_;exact zJ
 |some q3=>
 obtain⟨f,r3⟩:=q3;obtain⟨hfl,hbr3,hfr,hsp3⟩:=XZ _ _ _ _ hbr2 hnd;have hlf:=zA iA f;have hlr3:=zA yA r3;rw[hnd]at c4;unfold nbT at c4;dsimp only;by_cases hr:r3=[]
 ·subst hr;have k2:=vB [] zS;rw[zX1 rfl]
  show zN 80 [iA k,zD yA p] [] (.tup [yE ⟨k,p.take 10,a++f,[]⟩,iA 0]) []
  refine eM call80 λF hF=>?_
  refine yQ (zt6 c1 c2o c3 c4 k1 k2) ?_;refine zI [] rfl rfl ?_ rfl
  show AV.tup [.agg [iA k,zD yA (p.take 10),.sl false ((a.map iA++f.map iA).take (a.map iA++f.map iA).length),zD yA []],iA 0]=_
  rw[zX7,<-zYc];rfl
 ·have hr0:r3.length≠0:=λh=>hr (zY1 h)
  rw[zX0 hr]
  show zN 80 [iA k,zD yA p] [] (.tup [yE ⟨0,[],[],[]⟩,iA 6]) []
  refine eM call80 λF hF=>?_
  refine yQ (aB c1 c2o c3 c4) ?_;exact zJ
def zTj (fx gr:Nat):AV:= .agg [iA fx,iA gr,iA (if gr=0 then 0 else 1),iA (if gr=0 then 0 else 3),iA 0]
theorem zJb (k:Int) (h0:1<=k) (h1:k<=12):zN 138 [iA k] [] (zTj (jK k) (uP k)) []:=by
 obtain rfl|rfl|rfl|rfl|rfl|rfl|rfl|rfl|rfl|rfl|rfl|rfl:k=1∨k=2∨k=3∨k=4∨k=5∨k=6∨k=7∨k=8∨k=9∨k=10∨k=11∨k=12:=by omega
 all_goals (refine eM call138 λF hF=>?_)
 all_goals (refine WW ?_)
 all_goals exact zJ
def BG (fx gr:Nat) (c:Int):Nat->List Int->List Int
 |_,[]=>[]
 |i,x::r=>(if i=fx/\gr≠0 then [c]else [])++(cM x++BG fx gr c (i+1) r)
def PX (fx gr:Nat) (c:Int) (m:Ms):List Int:=(m.tok++BG fx gr c 0 m.args)++((if gr≠0/\m.args.length=fx then [0]else [])++m.data)
theorem zCc:∀(f:Nat) (n:Int),1<=(enR f n).length/\(enR f n).length<=f+1
 |0,n=>by simp[enR]
 |f+1,n=>by
  have:=zCc f (n/128);rw[enR];split
  ·simp
  ·rw[zYd];omega
theorem fA (n:Int):1<=(cM n).length/\(cM n).length<=5:=zCc 4 n
theorem LJ (k:Int) (h0:1<=k) (h1:k<=12) (m:Ms) (c:Nat) (hk:m.kind=k) (ht:m.tok.length=10) (hd:m.data.length<=100000) (ha:∀x∈m.args,0<=x/\x<=4294967295) (hn:m.args.length<=1000) (hc:uP k≠0->m.args.length=jK k+c*uP k) (hc3:c<=3):
  zN 140 [yE m] [] (zD yA (PX (jK k) (uP k) c m)) []:=by
 subst hk;have c1:=zJb m.kind h0 h1
 have hg:uP m.kind<=4:=by
  unfold uP
  repeat' split
  all_goals omega
 generalize jK m.kind=fx at *;generalize uP m.kind=gr at *;unfold zTj at c1;have hlt:=zA yA m.tok;have hla:=zA iA m.args;have hld:=zA yA m.data;unfold PX;generalize hT:m.tok++BG fx gr c 0 m.args=tot;refine eM call140 λF hF=>?_
 (have zc1:=c1;(repeat' (first|refine qB ?_|refine xO (λhc=>?_) (λhc=>?_)|refine wB (λhc=>?_)|(refine zE ?_;first|(refine yV ?_;refine gV 1001 tok rfl rfl rfl rfl rfl rfl (xT _ _ (λ_=>rfl)) rfl rfl rfl zB rfl rfl rfl ?_))|fail))<;>clear zc1)
 refine uL 1001 rfl ?_;refine qM (m.args) [1001,1,3] [1,3] [1,3,16,17] [4,18,1,3,16,17] rfl (λi pre T U zs=>∃acc:List Int,(acc.length<=10+6*i/\∀post,m.args=pre++post->acc++BG fx gr c i post=tot)/\zs=⟨(4,.ref 1001 0 (acc.map yA).length)::(18,iA i)::T,(1001,.arr 1 (acc.map yA) true)::U⟩) ?_;(conv=>whnf);refine⟨?_,?_,?_⟩
 ·exact⟨m.tok,⟨zB,λpost h=>by rw[<-hT,h];rfl⟩,rfl⟩
 ·rintro i pre x post st hx hi ⟨acc,⟨q0,q1⟩,rfl⟩;have hy:=yI iA hx hi;have hlt2:=yB hx hi;have hxr:=ha x (xX hx);have hla2:=zA yA acc;have he:=fA x;have c2:=zWl x hxr.1 hxr.2;have hle:=zA yA (cM x)
  have hpost:∀p,m.args=pre++[x]++p->p=post:=λp h=>by
   rw[hx,zYv]at h;simpa using h.symm
  have hT3:=q1 _ hx;clear q1 hT hx;by_cases hi2:i=fx/\gr≠0
  ·obtain⟨rfl,hg0⟩:=hi2;have hcl:=hc hg0
   have hq:(((m.args.map iA).length:Int)-(i:Int)).tdiv (gr:Int)=(c:Int):=by
    rw[hla,hcl,show(((i+c*gr:Nat):Int)-(i:Int))=(c:Int)*(gr:Int) by rw[Int.natCast_add,Int.natCast_mul];omega];exact Int.mul_tdiv_cancel _ zB
   have hir:XC .i64 ((((m.args.map iA).length:Int)-(i:Int)).tdiv (gr:Int)):=by rw[hq];exact⟨zB,zB⟩
   have e:BG i gr c i (x::post)=[(c:Int)]++(cM x++BG i gr c (i+1) post):=by rw[BG,zX1 ⟨rfl,hg0⟩]
   rw[e]at hT3;clear e hcl hc;generalize cM x=ex at *;refine yQ (wZ c1 c2) ?_;refine⟨acc++[(c:Int)]++ex,⟨by simp;omega,λp h=>by rw[hpost p h,<-hT3];simp⟩,?_⟩;rw[zYc,zYc,<-hq];rfl
  ·have e:BG fx gr c i (x::post)=cM x++BG fx gr c (i+1) post:=by rw[BG,zX0 hi2];rfl
   rw[e]at hT3;clear e hc;generalize cM x=ex at *;by_cases hif:i=fx
   ·have hg0:gr=0:=by
     by_cases h:gr=0
     ·exact h
     ·exact absurd ⟨hif,h⟩ hi2
    refine yQ (wZ c1 c2) ?_;refine⟨acc++ex,⟨by simp;omega,λp h=>by rw[hpost p h,<-hT3];simp⟩,?_⟩;rw[zYc];rfl
   ·(refine yQ (wZ c1 c2) ?_)
    refine⟨acc++ex,⟨by simp;omega,λp h=>by rw[hpost p h,<-hT3];simp⟩,?_⟩;rw[zYc];rfl
 ·rintro st ⟨acc,⟨q0,q1⟩,rfl⟩;have e:=q1 [] zS;rw[show BG fx gr c m.args.length []=[]from rfl,zY5]at e;subst e;have hla2:=zA yA acc;clear q1 hT hc;by_cases hz:gr≠0/\m.args.length=fx
  ·rw[zX1 hz];obtain⟨hz1,hz2⟩:=hz;refine WW ?_;refine zI [] rfl rfl ?_ rfl
   show AV.sl false ((acc.map yA++[yA 0]++m.data.map yA).take (acc.map yA++[yA 0]++m.data.map yA).length)=_
   rw[zX7];unfold zD;rw[zYc,zYc,zYv];rfl
  ·rw[zX0 hz];by_cases hz1:gr=0
   ·(refine WW ?_)
    refine zI [] rfl rfl ?_ rfl
    show AV.sl false ((acc.map yA++m.data.map yA).take (acc.map yA++m.data.map yA).length)=_
    rw[zX7];unfold zD;rw[zYc];rfl
   ·have hz2:m.args.length≠fx:=λh=>hz ⟨hz1,h⟩
    refine WW ?_;refine zI [] rfl rfl ?_ rfl
    show AV.sl false ((acc.map yA++m.data.map yA).take (acc.map yA++m.data.map yA).length)=_
    rw[zX7];unfold zD;rw[zYc];rfl
theorem YC (k:Int):zN 139 [iA k] [] (bA (decide (1<=k/\k<=12))) []:=by
 cases hb:decide (1<=k/\k<=12)with
 |false=>(rw[zYn]at hb;(refine eM call139 λF hF=>?_);((refine WW (I2 (λhc=>?_) (λhc=>?_))));all_goals (first|exact zJ|exact zXO|exact BK))
 |true=>(rw[zX9]at hb;(refine eM call139 λF hF=>?_);((refine WW ?_));all_goals (first|exact zJ|exact zXO|exact BK))
theorem fS (k:Int):zN 212 [iA k] [] (bA (decide (1<=k/\k<=12))) []:=by
 cases hb:decide (1<=k/\k<=12)with
 |false=>(rw[zYn]at hb;(refine eM call212 λF hF=>?_);((refine WW (I2 (λhc=>?_) (λhc=>?_))));all_goals (first|exact zJ|exact zXO|exact BK))
 |true=>(rw[zX9]at hb;(refine eM call212 λF hF=>?_);((refine WW ?_));all_goals (first|exact zJ|exact zXO|exact BK))
theorem IE (fx gr:Nat) (c:Int):∀(l:List Int) (i:Nat),(BG fx gr c i l).length<=6*l.length
 | [],i=>by simp[BG]
 |x::r,i=>by
  have h1:=IE fx gr c r (i+1);have h2:=fA x;rw[BG,zX3,zX3,zYd]
  have h3:(if i=fx/\gr≠0 then [c]else []).length<=1:=by split<;>simp
  omega
def vmF (gr c:Nat) (d:List Int):Bool:=decide (d.length=0/\(gr=0∨1<=c))
theorem zAd (k:Int):uP k=0∨uP k=2∨uP k=4:=by
 unfold uP
 repeat' split
 all_goals omega
theorem zAe (k:Int):jK k<=3:=by
 unfold jK
 repeat' split
 all_goals omega
theorem zJc (k:Int) (h0:1<=k) (h1:k<=12) (m:Ms) (c:Nat) (hk:m.kind=k) (ht:m.tok.length=10) (hd:m.data.length<=100000) (ha:∀x∈m.args,0<=x/\x<=4294967295) (hc:m.args.length=jK k+c*uP k) (hc3:c<=3):
  zN 84 [yE m] [] (bA (vmF (uP k) c m.data)) []:=by
 have c1:=zJb k h0 h1;have c2:=YC k;have hf:=zAe k;rw[zX8 ⟨h0,h1⟩]at c2;have c3:=LJ k h0 h1 m c hk ht hd ha (by have:=zAd k;rcases this with h|h|h<;>rw[h]at hc<;>omega) (λ_=>hc) hc3
 have hpl:(PX (jK k) (uP k) c m).length<=10+(6*m.args.length+(1+m.data.length)):=by
  have h1:=IE (jK k) (uP k) c m.args 0
  have h3:(if uP k≠0/\m.args.length=jK k then [(0:Int)]else []).length<=1:=by split<;>simp
  unfold PX;rw[zX3,zX3,zX3];omega
 have hlp:=zA yA (PX (jK k) (uP k) c m);have hg:=zAd k;subst hk;generalize PX (jK m.kind) (uP m.kind) c m=pl at *;generalize jK m.kind=fx at *;generalize uP m.kind=gr at *;unfold zTj at c1;have hlt:=zA yA m.tok;have hla:=zA iA m.args;have hld:=zA yA m.data
 cases hb:vmF gr c m.data with
 | true=>
  unfold vmF at hb;rw[zX9]at hb;obtain⟨hb1,hb2⟩:=hb
  rcases hg with rfl|rfl|rfl
  ·rw[zX1 rfl,zX1 rfl]at c1;refine eM call84 λF hF=>?_
   refine yQ (wZ c1 c2) ?_;refine zY (m.args) [1] [1] [1,97,98] [99,1,97,98] rfl (λi pre T U=>⟨(99,iA i)::T,U⟩) ?_;(conv=>whnf);refine⟨by rfl,?_,?_⟩
   ·intro i pre x post hx hi;have hy:=yI iA hx hi;have hlt2:=yB hx hi;have hxr:=ha x (xX hx);clear hx;refine WW ?_;rfl
   ·(refine zU c3 ?_)
    exact zJ
  all_goals
   rw[zX0 yZ,zX0 yZ]at c1;have hm2:(((m.args.map iA).length:Int)-(fx:Int)).tmod ((2:Nat):Int)=0:=by rw[zZu zB];omega
   have hm4:(((m.args.map iA).length:Int)-(fx:Int)).tmod ((4:Nat):Int)=(((m.args.map iA).length:Int)-(fx:Int)) % 4:=zZu zB;refine eM call84 λF hF=>?_
   refine yQ (wZ c1 c2) ?_;refine zY (m.args) [1] [1] [1,97,98] [99,1,97,98] rfl (λi pre T U=>⟨(99,iA i)::T,U⟩) ?_;(conv=>whnf);refine⟨by rfl,?_,?_⟩
   ·intro i pre x post hx hi;have hy:=yI iA hx hi;have hlt2:=yB hx hi;have hxr:=ha x (xX hx);clear hx;refine WW ?_;rfl
   ·(refine zU c3 ?_)
    exact zJ
 | false=>
  unfold vmF at hb;rw[zYn]at hb
  rcases hg with rfl|rfl|rfl
  ·rw[zX1 rfl,zX1 rfl]at c1;have hd0:m.data.length≠0:=λh=>hb ⟨h,.inl rfl⟩
   refine eM call84 λF hF=>?_
   refine yQ (wZ c1 c2) ?_;exact zJ
  all_goals
   rw[zX0 yZ,zX0 yZ]at c1;have hm2:(((m.args.map iA).length:Int)-(fx:Int)).tmod ((2:Nat):Int)=0:=by rw[zZu zB];omega
   have hm4:(((m.args.map iA).length:Int)-(fx:Int)).tmod ((4:Nat):Int)=(((m.args.map iA).length:Int)-(fx:Int)) % 4:=zZu zB;by_cases hc1:1<=c
   ·have hd0:m.data.length≠0:=λh=>hb ⟨h,.inr hc1⟩
    refine eM call84 λF hF=>?_
    refine yQ (wZ c1 c2) ?_;exact zJ
   ·(refine eM call84 λF hF=>?_)
    refine yQ (wZ c1 c2) ?_;exact zJ
theorem zEb (k:Int) (h0:1<=k) (h1:k<=12) (p:List Int) (hb:BY p) (hn:p.length<=100000):yR [iA k,zD yA p] [] (deT k (p.take 10) (dcF (jK k) (uP k) p)) []:=yG
theorem zEc (l:List Rq) (q:Int) (hv:aM l) (hq:¬(l.length:Int)<=q):zN 269 [zD yK l,iA q] [] (bA false) []:=by
 have hl:=zA yK l;have h4:=hv.n4;refine eM call269 λF hF=>?_
 refine WW ?_;exact zJ
theorem zEd (l:List Rq) (q id:Int) (v:Vh) (life:Int) (x:List Lg) (now:Int) (hv:aM l) (hq:¬(l.length:Int)<=q):
  zN 268 [zD yK l,iA q,iA id,vT v,iA life,zD xU x,iA now] [] (.tup [zD yK [],iA 1]) []:=by
 have c1:=zEc l q hv hq;refine eM call268 λF hF=>?_
 refine zU c1 ?_;exact zJ
theorem PY {l:List Rq} {r x:Rq}:x∈aG l r->x=r∨x∈l:=λh=>by
 unfold aG at h
 rcases zYl.1 h with h|h
 ·exact .inr (zZv h)
 ·rcases zZi.1 h with h|h
  ·exact .inl h
  ·exact .inr (zZe h)
theorem zTk {l:List Rq} {q id life now:Int} {v:Vh} {x:List Lg} (hv:aM l) (he:suE l q id life x=0) (v0:0<=v.id) (v1:v.id<=4294967295) (w0:0<=v.cls) (w1:v.cls<=3) (n0:0<=now) (n1:now<=1073741824):aM (aG l (bJ id v life x now)):=by
 have h1:0<=id/\id<=4294967295/\1<=life/\life<=600/\vgF x=true:=by
  by_cases h:0<=id/\id<=4294967295/\1<=life/\life<=600/\vgF x=true
  ·exact h
  ·rw[suE,zX1 h]at he;cases he
 rw[suE,zX0 (λh=>h h1)]at he
 have hh:gE l id=false:=by
  cases h:gE l id with
  |false=>rfl
  |true=>rw[zX1 h]at he;cases he
 rw[zX0 (by rw[hh];decide)]at he;have hq:¬(q<=l.length∨4<=(l.length:Int)):=λh=>by rw[zX1 h]at he;cases he
 have hno:∀r∈l,r.id≠id:=by simpa [gE]using hh
 have hle:=IG l id;refine⟨λr hr=>?_,?_,?_⟩
 ·rcases PY hr with rfl|hr
  ·exact⟨h1.1,h1.2.1,v0,v1,w0,w1,by show 0<=now+life;omega,by show now+life<=2147483648;omega,h1.2.2.2.2⟩
  ·exact hv.ok r hr
 ·have hs:=hv.so;unfold aG
  show((l.take (SD l id))++bJ id v life x now::l.drop (SD l id)).Pairwise _
  rw[yBx,yB7];have hs2:=hs;rw[<-yA9 (SD l id) l,yBx]at hs2
  have hlo:∀y∈l.take (SD l id),y.id<id:=λy hy=>by
   obtain⟨i,hi,rfl⟩:=yCi.1 hy;rw[zYo]at hi;have:=zJl (l:=l) (id:=id) (i:=i) zB;rw[List.getElem_take];simpa [List.getD,show i<l.length by omega]using this
  have hhi:∀y∈l.drop (SD l id),id<y.id:=λy hy=>by
   have hne:=hno y (zZe hy);by_cases hk:SD l id<l.length
   ·have h2:=zJm hk;rw[yAu hk]at hy;have e:l.getD (SD l id) default=l[SD l id]:=by simp[List.getD,hk]
    rw[e]at h2
    rcases zZi.1 hy with rfl|hy
    ·omega
    ·have hs3:=hs2.2.1;rw[yAu hk,yB7]at hs3;have:=hs3.1 y hy;omega
   ·rw[yB9 zB]at hy;cases hy
  refine⟨hs2.1,⟨hhi,hs2.2.1⟩,λa ha b hb=>?_⟩
  rcases zZi.1 hb with rfl|hb
  ·exact hlo a ha
  ·have:=hlo a ha;have:=hhi b hb;omega
 ·unfold aG;rw[zX3,zYd,zYo,zY4]
  show min (SD l id) l.length+(l.length-SD l id+1)<=4
  omega
theorem zTl {now:Int} {g:Lg} {p:Int×Int} (hg:IN g=true) (h:okW now g p=true):IN (nwL now g p)=true:=by
 unfold IN at hg;unfold okW mwB at h;rw[zX9]at hg h;unfold IN nwL;rw[zX9];dsimp only;omega
theorem zCd {now:Int}:∀(gs:List Lg) (w:List (Int×Int)) (pre pre':List Lg),pre'.map (·.jn)=pre.map (·.jn)->w.length=gs.length->(gs.zipWith (okW now) w).all id=true->eG pre gs=true->eG pre' (gs.zipWith (nwL now) w)=true
 | [],w,pre,pre',_,_,_,_=>by cases w<;>rfl
 |g::gs,[],pre,pre',_,hl,_,_=>by simp at hl
 |g::gs,p::w,pre,pre',hp,hl,ha,h=>by
  rw[yBg,yDh,zYh]at ha;rw[eG,zYh,zYh]at h;obtain⟨h1,h2,h3⟩:=h;rw[yBg,eG,zYh,zYh];refine⟨zTl h1 ha.1,?_,zCd gs w (pre++[g]) (pre'++[nwL now g p]) (by rw[zYc,zYc,hp];rfl) LX ha.2 h3⟩;have e:∀l:List Lg,(l.any λy=>y.jn==g.jn)=(l.map (·.jn)).any (· ==g.jn):=λl=>by rw[List.any_map];rfl
  show(!(pre'.any λy=>y.jn==g.jn))=true
  rw[e,hp,<-e];exact h2
theorem zTm {l:List Rq} {id now:Int} {w:List (Int×Int)} (hv:aM l) (he:bL l id w now=0):aM (ML l id w now):=by
 have hh:gE l id=true:=by
  cases h:gE l id with
  |true=>rfl
  |false=>rw[bL,zX0 (by rw[h];decide)]at he;cases he
 obtain⟨pre,x,post,hL,hx,_,hf,_⟩:=LL hh;rw[bL,zX1 hh,hf]at he
 have hw:w.length=x.legs.length/\DC x.legs w now=true:=by
  by_cases h:w.length=x.legs.length/\DC x.legs w now=true
  ·exact h
  ·rw[zX0 h]at he;cases he
 have hxo:=hv.ok x (by rw[hL];simp);rw[zCh hL hv hx];have hs:=hv.so;have h4:=hv.n4;rw[hL]at hs h4;rw[yBx,yB7]at hs;refine⟨λr hr=>?_,?_,by simpa using h4⟩
 ·rw[zYl,zZi]at hr
  rcases hr with hr|rfl|hr
  ·exact hv.ok r (by rw[hL];simp[hr])
  ·refine⟨hxo.i0,hxo.i1,hxo.v0,hxo.v1,hxo.c0,hxo.c1,hxo.t0,hxo.t1,?_⟩;have h1:=IO hxo.lg
   have h2:eG [] x.legs=true:=by
    have:=hxo.lg;rw[vgF,zYh]at this;exact this.2
   unfold vgF;rw[zYh];exact⟨zX8 (by rw[yB4];omega),zCd x.legs w [] [] rfl hw.1 hw.2 h2⟩
  ·exact hv.ok r (by rw[hL];simp[hr])
 ·rw[yBx,yB7];refine⟨hs.1,⟨hs.2.1.1,hs.2.1.2⟩,λa ha b hb=>?_⟩
  rcases zZi.1 hb with rfl|hb
  ·exact hs.2.2 a ha x zS
  ·exact hs.2.2 a ha b (by simp[hb])
def YZ (l:List Tk):Nat->Int->List Int
 |0,_=>[]
 |n+1,s=>bif fT l s then s::YZ l n (l.getD s.toNat default).par else []
theorem jC (l:List Tk) (k:Nat) (a:Int):YZ l (k+1) a=bif fT l a then a::YZ l k (l.getD a.toNat default).par else []:=rfl
theorem WA {l:List Tk} {s:Int} (h:fT l s=true):0<=s/\s<l.length:=by
 unfold fT at h;simp only[zYh,zX9]at h;exact h.1
theorem zJd {l:List Tk}:∀(n:Nat) (s x:Int),x∈YZ l n s->fT l x=true
 |0,s,x,h=>by simp[YZ]at h
 | n+1,s,x,h=>by
  unfold YZ at h
  cases hu:fT l s<;>rw[hu]at h
  ·simp at h
  ·rw[zZc,zZi]at h
   rcases h with rfl|h
   ·exact hu
   ·exact zJd n _ x h
def zJe (l:List Tk) (s:Int):List (Nat×xN):=[(1003,.box [iA s]),(1004,.box [zD xB l])]
theorem zQr (l:List Tk) (s:Int):zN 209 [zD xB l,iA s] [] (.fn 232 [.ptr 1003 0 0,.ptr 1004 0 0]) (zJe l s):=by
 refine eM call209 λF hF=>?_
 repeat' (first|(refine zE ?_;first|refine uN (jF (v:=AV.sl _ _) 1004 rfl rfl) rfl rfl rfl ?_|refine uN (jF (v:=AV.s _) 1003 rfl rfl) rfl rfl rfl ?_|refine vN tok rfl rfl ?_|refine qF ?_)|(first|refine xS ?_|refine xD ?_|refine vD rfl ?_|refine zX rfl ?_|refine zQ rfl ?_|refine xK rfl (λhc=>?_) (λhc=>?_)|refine yY ?_|refine yU ?_|refine xE ?_|refine yT ?_))
 exact zL [1003,1004] rfl rfl rfl rfl
theorem zJf (l:List Tk) (s:Int):YN prog 232 [.ptr 1003 0 0,.ptr 1004 0 0] (zJe l s) ((YZ l 8 s).map λx=>[iA x]):=by
 have hl:=zA xB l;refine bY func232 rfl (λargs w=>call232 args w) rfl rfl rfl (λF y hro hit hY=>?_);unfold zJe;refine WW ?_;refine xV (8) [1003,1004] [1003,1004] [0,2] [4,6,1000000,0,2] rfl (λi T U zs=>∃(a:Int) (pre:List Int),(YZ l 8 s=pre++YZ l (8-i) a/\pre.length=i)/\zs=⟨(4,iA a)::(6,iA i)::(1000000,.gh i)::T,U⟩) ?_;(conv=>whnf);refine⟨?_,?_,?_⟩
 ·exact⟨s,[],⟨rfl,rfl⟩,rfl⟩
 ·rintro i st hi ⟨a,pre,⟨hp,hpl⟩,rfl⟩;have c:=zAg l a;obtain⟨k,hk⟩:∃k,8-i=k+1:=⟨7-i,zB⟩;rw[hk,jC l k a]at hp
  cases hu:fT l a<;>rw[hu]at c hp
  ·rw[zZz,zY5]at hp;refine zU c ?_;exact bB rfl (.inl (by rw[zX2,hp,hpl]))
  ·rw[zZc]at hp;obtain⟨h0,h1⟩:=WA hu;have hy:=yM xB l a h0 h1;have hys:((YZ l 8 s).map λx=>[iA x])[i]? =some [iA a]:=by rw[hp];simp[<-hpl]
   have hlen:i<((YZ l 8 s).map λx=>[iA x]).length:=(zYq.1 hys).1;generalize ((YZ l 8 s).map λx=>[iA x])=xs at *;have hp':YZ l 8 s=(pre++[a])++YZ l (8-(i+1)) (l.getD a.toNat default).par:=by rw[hp,show 8-(i+1)=k by omega];simp
   generalize l.getD a.toNat default=t at*
   (repeat' (first|refine qB ?_|refine xO (λhc=>?_) (λhc=>?_)|refine wB (λhc=>?_)|(refine zE ?_;refine wD ?_;first|(first|(refine uQ 233 ?_;first|refine xI (zH (c) rfl rfl rfl rfl rfl) rfl ?_|refine uN (zH (c) rfl rfl rfl rfl rfl) rfl rfl rfl ?_|refine aN (zH (c) rfl rfl rfl rfl rfl) rfl rfl rfl ?_))|(refine ZP ?_;refine QJ hit hY rfl rfl hys rfl rfl rfl ?_ ?_))|(refine zE ?_;first|refine SM ?_)|fail))
   ·exact⟨t.par,pre++[a],⟨hp',by simp[hpl]⟩,rfl⟩
   ·exact bB rfl (.inr zB)
 ·rintro st ⟨a,pre,⟨hp,hpl⟩,rfl⟩;rw[show YZ l (8-8) a=[]from rfl,zY5]at hp;refine WW ?_;exact ZQ rfl (.inl (by rw[zX2,hp,hpl]))
def deF (l:List Tk) (s top:Int):Bool:=(YZ l 8 s).any λa=>a==top
theorem zJg (l:List Tk) (s top:Int):zN 285 [zD xB l,iA s,iA top] [] (bA (deF l s top)) []:=by
 have c:=zQr l s;unfold zJe at c;refine eM call285 λF hF=>?_
 refine zU c ?_;refine uJ hF (zJf l s) rfl [5,6] [5,6] rfl rfl rfl rfl rfl rfl rfl rfl rfl (λi ys h=>?_) (λ_=>[(5,.box [iA top]),(6,.box [.s (.bool false)])]) (λi=>∀x∈(YZ l 8 s).take i,x≠top) (T:=[(5,.ptr 5 0 0),(6,.ptr 6 0 0)]) rfl zS (λi ys y hys hI F1 h1 h2=>?_) (λhI=>?_)
 ·rw[zX4,zYg]at h;obtain⟨x,_,rfl⟩:=h;rfl
 ·rw[zX4,zYg]at hys;obtain⟨x,hx,rfl⟩:=hys
  show uG _ F1 _ _ ⟨[(11,iA x),(5,.ptr 5 0 0),(6,.ptr 6 0 0)],[(5,.box [iA top]),(6,.box [.s (.bool false)])]⟩ _
  have hmem:x∈YZ l 8 s:=zZn hx;refine WW ?_;refine⟨rfl,λF2 g1 g2=>?_⟩;by_cases ht:x=top
  ·have hd:deF l s top=true:=zZp.2 ⟨x,hmem,by simpa using ht⟩;rw[hd];refine WW ?_;exact zJ
  ·(refine WW ?_)
   refine⟨rfl,λz hz=>?_⟩;rw[yAz,hx]at hz;simp only[yDf,zYl,zYz]at hz
   rcases hz with hz|rfl
   ·exact hI z hz
   ·exact ht
 ·rw[zX2,zX7]at hI;have hd:deF l s top=false:=yAx.2 λx hx=>by simpa using hI x hx
  rw[hd];refine WW ?_;exact zJ
def zEe (l:List Tk) (now:Int) (j:Nat):Tk:=if(YZ l 8 j).any (λa=>exF (l.getD a.toNat default) now)=true then frT else l.getD j default
def RD (l:List Tk) (now:Int) (s:Nat):List Tk:=(List.range l.length).map λj=>if j<s then zEe l now j else l.getD j default
def MG (l:List Tk) (now:Int):List Tk:=(List.range l.length).map (zEe l now)
theorem IF (l:List Tk) (now:Int) (s:Nat):(RD l now s).length=l.length:=by simp[RD]
theorem zJh (l:List Tk) (now:Int):RD l now 0=l:=by
 unfold RD;apply zZf;intro j;rw[zX4];by_cases h:j<l.length
 ·rw[zYx h];simp[List.getD,h]
 ·rw[zYt wQ,zYt zB];rfl
theorem zOg (l:List Tk) (now:Int):RD l now l.length=MG l now:=by
 unfold RD MG;apply yBf;intro j hj;rw[zYr]at hj;rw[zX1 hj]
theorem zJi (l:List Tk) (now:Int) (s:Nat) (h:s<l.length):(RD l now s)[s]? =some (l.getD s default):=by
 unfold RD;rw[zX4,zYx h];simp
theorem zJj (l:List Tk) (now:Int) (s:Nat):RD l now (s+1)=(RD l now s).set s (zEe l now s):=by
 unfold RD;apply zZf;intro j;rw[zZ7,zX4,zX4];by_cases h:j<l.length
 ·rw[zYx h];by_cases hs:s=j
  ·subst hs;simp[h]
  ·rw[zX0 hs];by_cases hj:j<s
   ·simp[hj,show j<s+1 by omega]
   ·simp[hj,show¬j<s+1 by omega]
 ·rw[zYt wQ]
  split<;>simp;omega
theorem zJk (l:List Tk) (hb:GL l) (now:Int):zN 188 [zD xB l,iA now] [] (zD xB (MG l now)) []:=by
 have c:=WE l hb;have hn:=hb.n;have hll:=zA xB l;refine eM call188 λF hF=>?_
 refine zU c ?_;refine zP ((l.map xB).length) [1001,2,3,5] [2,3,5] [2,3,5,11,18] [12,2,3,5,11,18] rfl (λi T U=>⟨(12,iA i)::T,(1001,.arr 6 ((RD l now i).map xB) false)::U⟩) ?_;(conv=>whnf);refine⟨by(rw[zJh];rfl),?_,?_⟩
 ·intro i hi;have hi':i<l.length:=by omega
  have c1:=zQr l i;unfold zJe at c1;have hy:((RD l now i).map xB)[i]? =some (xB (l.getD i default)):=by rw[zX4,zJi l now i hi'];rfl
  have es:=zJj l now i;have hif:=zAh;have hrl:i<((RD l now i).map xB).length:=by rw[zX2,IF];exact hi'
  refine zU c1 ?_
  refine uJ hF (zJf l i) rfl [2,3,5,6,1001] [2,3,5,6,11,12] rfl rfl rfl rfl rfl rfl rfl rfl rfl (λk ys h=>?_) (λ_=>[(2,.box [zD xB l]),(3,.box [iA now]),(5,.box [.ref 1001 0 (l.map xB).length]),(6,.box [iA i]),(1001,.arr 6 ((RD l now i).map xB) false)]) (λk=>∀x∈(YZ l 8 i).take k,exF (l.getD x.toNat default) now=false)
   (T:=[(2,.ptr 2 0 0),(3,.ptr 3 0 0),(5,.ptr 5 0 0),(6,.ptr 6 0 0),(11,iA (l.map xB).length),(12,iA i)]) rfl zS (λk ys y hys hI F1 h1 h2=>?_) (λhI=>?_)
  ·rw[zX4,zYg]at h;obtain⟨x,_,rfl⟩:=h;rfl
  ·rw[zX4,zYg]at hys;obtain⟨x,hx,rfl⟩:=hys
   show uG _ F1 _ _ ⟨[(18,iA x),(2,.ptr 2 0 0),(3,.ptr 3 0 0),(5,.ptr 5 0 0),(6,.ptr 6 0 0),(11,iA (l.map xB).length),(12,iA i)],[(2,.box [zD xB l]),(3,.box [iA now]),(5,.box [.ref 1001 0 (l.map xB).length]),(6,.box [iA i]),(1001,.arr 6 ((RD l now i).map xB) false)]⟩ _
   have hmem:x∈YZ l 8 i:=zZn hx;obtain⟨b1,b2⟩:=WA (zJd _ _ _ hmem);have hy2:=yM xB l x b1 b2;have ce:=LM (l.getD x.toNat default) now;refine WW ?_;refine⟨rfl,λF2 g1 g2=>?_⟩
   cases he:exF (l.getD x.toNat default) now<;>rw[he]at ce
   ·(refine zU ce ?_)
    refine⟨rfl,λz hz=>?_⟩;rw[yAz,hx]at hz;simp only[yDf,zYl,zYz]at hz
    rcases hz with hz|rfl
    ·exact hI z hz
    ·exact he
   ·have e2:(RD l now (i+1)).map xB=((RD l now i).map xB).set i (xB frT):=by
     rw[es,zEe,zX1 (zZp.2 ⟨x,hmem,he⟩),zZ9]
    generalize (RD l now i).map xB=xs at *;generalize (RD l now (i+1)).map xB=ys at *;subst e2;refine yQ (wZ ce hif) ?_;rfl
  ·rw[zX2,zX7]at hI
   have e2:(RD l now (i+1)).map xB=(RD l now i).map xB:=by
    rw[es,zEe,zX0 (by simpa using hI)]
    congr 1
    have:=zJi l now i hi';rw[zYq]at this;obtain⟨h,e⟩:=this;rw[<-e,yC0]
   generalize (RD l now i).map xB=xs at *;generalize (RD l now (i+1)).map xB=ys at *;subst e2;refine WW ?_;rfl
 ·have hl2:(l.map xB).length=((RD l now l.length).map xB).length:=by simp[IF]
  rw[<-zOg];rw[hll]at *; refine WW ?_;exact zI [] rfl rfl (zY0 (AV.sl false) (zYb (by simp[IF]))) rfl
def tkN (a:Ag):List Tk:=⟨true,a.sec,-1,a.rights,a.cls,0⟩::List.replicate 7 frT
def zT:AV:= .agg [.s (.bool false),.s (.slice none 0 0),.s (.int .i64 0),.s (.int .i64 0),.s (.int .i64 0),.s (.int .i64 0)]
def BH (i:Nat):List AV:=List.replicate i (xB frT)++List.replicate (8-i) zT
theorem zTn (i:Nat) (h:i<8):(BH i)[i]? =some zT:=by
 unfold BH;rw[zYs zS];simp[show 0<8-i by omega]
theorem zOh (i:Nat) (h:i<8):(BH i).set i (xB frT)=BH (i+1):=by
 unfold BH;rw[show 8-i=(8-(i+1))+1 by omega,yBl (n:=8-(i+1)),yA0 _ _ zS,zZd,yAe,yB8,yC6 (n:=i),zYv];rfl
theorem zTo (a:Ag) (hs:a.sec.length<=1000000):zN 179 [vC a] [] (zD xB (tkN a)) []:=by
 have cf:=zAh;have cs:=vB a.sec zB;obtain⟨N,hN⟩:∃N:Nat,N=8:=⟨8,rfl⟩;refine eM call179 λF hF=>?_
 refine WW ?_;refine zP (N) [5,1] [1] [1] [8,7,3,1] rfl (λi T U=>⟨(8,iA i)::(7,iA N)::(3,.ref 5 0 N)::T,(5,.arr 6 (BH i) false)::U⟩) ?_;(conv=>whnf);refine⟨by(rw[hN];rfl),?_,?_⟩
 ·intro i hi;have hy:=zTn i zB;have e:=zOh i zB;have hln:(BH i).length=8:=by unfold BH;simp;omega
  generalize BH i=xs at *;generalize BH (i+1)=ys at *;subst e;unfold zT at hy;refine zU cf ?_;rfl
 ·rw[show BH N=BH 8 by rw[hN]];have hy:(BH 8)[0]? =some (xB frT):=rfl;have e8:(BH 8).set 0 (xB ⟨true,a.sec,-1,a.rights,a.cls,0⟩)=(tkN a).map xB:=rfl;have hln:(BH 8).length=8:=rfl;generalize BH 8=xs at *;unfold xB at hy;refine zU cs ?_;exact zI [] rfl rfl (zY0 (AV.sl false) ((zYb wQ).trans e8)) rfl
def EW (n:Int) (a:Ag):Rg:=⟨n,a,tkN a,[],⟨a.burst,a.rate,a.burst⟩⟩
theorem zTp (n:Int) (a:Ag) (hs:a.sec.length<=1000000) (hl:a.lim.length<=1000000):zN 144 [iA n,vC a] [] (uX (EW n a)) []:=by
 have c1:=DG a hs hl;have c2:=zTo a hs;have c3:=zTx a.rate a.burst;unfold EW;generalize tkN a=tk at *;refine eM call144 λF hF=>?_
 refine yQ (fB c1 c2 c3) ?_;exact zJ
theorem ZC (g s:Int) (l:List Int) (hl:l.length<=1000000) (g0:0<=g) (g1:g<256) (s0:0<=s) (s1:s<256):zN 46 [iA g,iA s,zD yA l] [] (zD yA (g::s::l)) []:=by
 have hll:=zA yA l;refine eM call46 λF hF=>?_
 refine WW ?_;exact zI [] rfl rfl (zY0 (AV.sl false) (zYb zS)) rfl
theorem zTq (a b:List Int):zN 256 [zD yA a,zD yA b] [] (bA (eqY a b)) []:=by
 refine eM call256 λF hF=>?_
 refine WW ?_;exact zJ
def zOi (l:List Tk) (b:List Int):Tk:=l.getD (b.getD 1 default).toNat default
def ckB (l:List Tk) (g:Int) (b:List Int) (k now:Int):Bool:=decide ((b.length:Int)=10/\b.getD 0 default=g)&&fT l (b.getD 1 default)&&(eqY (b.drop 2) (zOi l b).sec&& !exF (zOi l b) now&&peF (zOi l b).rights k)
theorem zOj (l:List Tk) (g:Int) (b:List Int) (k now:Int) (hb:BY b):zN 234 [zD xB l,iA g,zD yA b,iA k,iA now] [] (.tup [iA (if ckB l g b k now=true then b.getD 1 default else 0),iA (if ckB l g b k now=true then 0 else 9)]) []:=by
 have hll:=zA yA b;have hlt:=zA xB l;by_cases h1:(b.length:Int)=10
 case neg=>
  have e:ckB l g b k now=false:=by unfold ckB;rw[zYa (λh=>h1 h.1)];rfl
  rw[e];refine eM call234 λF hF=>?_
  refine WW ?_;exact zJ
 have hy0:=yM yA b 0 zB zB;have hy1:=yM yA b 1 zB zB;have b0:0<=b.getD 0 default/\b.getD 0 default<256:=hb _ zQ0;have b1:0<=b.getD 1 default/\b.getD 1 default<256:=hb _ zQ0
 change (b.map yA)[0]? =some (yA (b.getD 0 default))at hy0
 change (b.map yA)[1]? =some (yA (b.getD 1 default))at hy1
 unfold ckB zOi;generalize b.getD 0 default=x0 at *;generalize b.getD 1 default=x1 at *;by_cases h2:x0=g
 case neg=>
  rw[zYa (λh=>h2 h.2)];refine eM call234 λF hF=>?_
  refine WW ?_;exact zJ
 rw[zX8 ⟨h1,h2⟩];have cu:=zAg l x1;cases hu:fT l x1
 ·rw[hu]at cu;refine eM call234 λF hF=>?_
  refine zU cu ?_;exact zJ
 rw[hu]at cu;obtain⟨u0,u1⟩:=WA hu;have hyt:=yM xB l x1 u0 u1;generalize l.getD x1.toNat default=t at *;have ce:=zTq (b.drop 2) t.sec;have cx:=LM t now;have cp:=zEh t.rights k;generalize eqY (b.drop 2) t.sec=q1 at *;generalize exF t now=q2 at *;generalize peF t.rights k=q3 at*
 cases q1<;>cases q2<;>cases q3<;>((refine eM call234 λF hF=>?_);(refine yQ (aB cu ce cx cp) ?_);exact zJ)
def rgZ:Rg:=⟨0,⟨[],0,0,[],0,0,0,0⟩,[],[],⟨0,0,0⟩⟩
def LK (k:Int):Bool:=decide (2<=k/\k<=8)
def opE (r:Rg) (m:Ms) (now:Int):Int:=if ckB r.tk r.num m.tok m.kind now=true then(if LK m.kind=true/\r.bk.level<=0 then 13 else 0)else 9
def opR (r:Rg) (m:Ms) (now:Int):Rg:=if opE r m now=0 then(if LK m.kind=true then⟨r.num,r.ag,r.tk,r.vh,DE r.bk⟩else r)else rgZ
def opS (r:Rg) (m:Ms) (now:Int):Int:=if opE r m now=0 then m.tok.getD 1 default else 0
theorem zTr (r:Rg) (m:Ms) (now:Int) (hr:GM r) (hm:BY m.tok) (hl:r.bk.level<=1000000):zN 213 [uX r,yE m,iA now] [] (.tup [uX (opR r m now),iA (opS r m now),iA (opE r m now)]) []:=by
 have c1:=zOj r.tk r.num m.tok m.kind now hm;have c2:=dG r hr;have c3:=zO3 r.bk zB;unfold opR opS opE
 cases hc1:ckB r.tk r.num m.tok m.kind now<;>rw[hc1]at c1
 ·(refine eM call213 λF hF=>?_)
  refine zU c1 ?_;exact zJ
 ·generalize m.tok.getD 1 default=slot at *;cases hk:LK m.kind
  ·have hk':¬(2<=m.kind/\m.kind<=8):=of_decide_eq_false hk;refine eM call213 λF hF=>?_
   refine yQ (wZ c1 c2) (I2 (λhc=>?_) (λhc=>?_))
   all_goals (first|exact zXO|exact zJ)
  ·have hk':2<=m.kind/\m.kind<=8:=yCd hk;by_cases hv:r.bk.level<=0
   ·rw[zYa zB]at c3;simp only[hv,and_self,yC2];refine eM call213 λF hF=>?_
    refine yQ (fB c1 c2 c3) ?_;exact zJ
   ·rw[zX8 zB]at c3;simp only[hv,yDx,if_false,yC2];generalize hb:DE r.bk=b2 at *;refine eM call213 λF hF=>?_
    refine yQ (fB c1 c2 c3) ?_;exact zJ
def rtF (r:Rg) (now:Int):Rg:=⟨r.num,r.ag,MG r.tk now,r.vh,btF r.bk⟩
theorem zOk (r:Rg) (now:Int) (hr:GM r) (hl: -1000000<=r.bk.level+r.bk.rate/\r.bk.level+r.bk.rate<=1000000):zN 156 [uX r,iA now] [] (uX (rtF r now)) []:=by
 have c1:=dG r hr;have c2:=zJk r.tk hr.tk now;have c3:=zO2 r.bk zB;unfold rtF;generalize MG r.tk now=tk at *;generalize btF r.bk=bk at *;refine eM call156 λF hF=>?_
 refine yQ (fB c1 c2 c3) ?_;exact zJ
theorem zOl (l:List Tk) (hb:l.length<=1000000):zN 169 [zD xB l,zD xB l] [] (bA true) []:=by
 have hl:=zA xB l;refine eM call169 λF hF=>?_
 refine WW ?_;refine zY (l) [] [] [1,13,14] [15,1,13,14] rfl (λi pre T U=>⟨(15,iA i)::T,U⟩) ?_;(conv=>whnf);refine⟨by rfl,?_,?_⟩
 ·intro i pre x post hx hi;have hy:=yI xB hx hi;have hlt:=yB hx hi;clear hx;refine WW (I3 (λhc=>?_) (λhc hc=>?_) (λhc hc=>?_))
  all_goals (first|rfl|(exfalso;first|(simp[xL]at hc;done)|(revert hc;simp[xL];done)))
 ·(refine WW ?_)
  exact zJ
theorem zOm (l:List Vh) (hb:l.length<=1000000):zN 170 [zD vT l,zD vT l] [] (bA true) []:=by
 have hl:=zA vT l;refine eM call170 λF hF=>?_
 refine WW ?_;refine zY (l) [] [] [1,12,13] [14,1,12,13] rfl (λi pre T U=>⟨(14,iA i)::T,U⟩) ?_;(conv=>whnf);refine⟨by rfl,?_,?_⟩
 ·intro i pre x post hx hi;have hy:=yI vT hx hi;have hlt:=yB hx hi;clear hx
  (repeat' (first|refine qB ?_|refine xO (λhc=>?_) (λhc=>?_)|refine wB (λhc=>?_)|(refine zE ?_;first|refine SE ?_)|fail))
  all_goals (first|rfl|(exfalso;first|(simp[xL]at hc;done)|(revert hc;simp[xL];done)))
 ·(refine WW ?_)
  exact zJ
theorem zOn (a:Ag) (hb:a.lim.length<=1000000):zN 168 [vC a,vC a] [] (bA true) []:=by
 have hl:=zA iA a.lim;refine eM call168 λF hF=>?_
 refine WW ?_;refine zY (a.lim) [2,3] [2,3] [2,3,15,16] [17,2,3,15,16] rfl (λi pre T U=>⟨(17,iA i)::T,U⟩) ?_;(conv=>whnf);refine⟨by rfl,?_,?_⟩
 ·intro i pre x post hx hi;have hy:=yI iA hx hi;have hlt:=yB hx hi;clear hx;refine WW ?_
  all_goals (first|rfl|(exfalso;first|(simp[xL]at hc;done)|(revert hc;simp[xL];done)))
 ·(refine WW (I2 (λhc=>?_) (λhc=>?_)))
  all_goals (first|(exfalso;first|(simp[xL]at hc;done)|(revert hc;simp[xL];done))|exact zJ|(apply uD;(exact zJ);simp[kE,xL]))
theorem zOo (r:Rg) (hr:GM r):zN 121 [uX r,uX r] [] (bA true) []:=by
 have c1:=zOn r.ag hr.l;have c2:=zOl r.tk hr.tk.n;have c3:=zOm r.vh hr.v;refine eM call121 λF hF=>?_
 (have zc1:=c1;have zc2:=c2;have zc3:=c3;(repeat' (first|refine qB ?_|refine xO (λhc=>?_) (λhc=>?_)|refine wB (λhc=>?_)|(refine zE ?_;first|refine SE ?_)|fail))<;>clear zc1 zc2 zc3)
 all_goals (first|exact zJ|(apply uD;(exact zJ);simp))
theorem zAf (l:List Tk) (hb:GL l):yR [zD xB l] [] (.ref 1001 0 (l.map xB).length) [(1001,.arr 6 (l.map xB) false)]:=yG
theorem QC (r:Rg) (hb:GM r):yR [uX r] [] (uX r) []:=yG
end Av
end Go.Proofs.YtmamjhmoegjapaaGreat
