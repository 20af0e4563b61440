/- Part 16. -/
import Derived.Test.YtmamjhmoegjapaaGreatP15
namespace Go.Proofs.YtmamjhmoegjapaaGreat
namespace Av
open Tryz
set_option linter.all false
set_option maxRecDepth 4000
set_option maxHeartbeats 2000000
theorem zIv:∀(r:List Int) (i:Nat) (n:Int),BY r->0<=n->(aF r i n=(0,0,6))∨((aF r i n).2.2=0/\0<=(aF r i n).1/\(aF r i n).1<=4294967295/\(i:Int)+1<=(aF r i n).2.1/\(aF r i n).2.1<=i+r.length)
 | [],i,n,_,_=> .inl rfl
 | x::r,i,n,hb,hn=>by
  have hx:=hb x zU
  have hp:0<=n+x.tmod 128*128 ^ i:=by
   have h1:0<=x.tmod 128:=by rw[yAi hx.1];omega
   have h2:(0:Int)<=128 ^ i:=Int.pow_nonneg zB;have:=Int.mul_nonneg h1 h2;omega
  rw[aF];by_cases h5:i=5
  ·exact .inl (zYp h5)
  rw[zYo h5];by_cases h1:128<=x
  ·rw[zYp h1]
   rcases zIv r (i+1) (n+x.tmod 128*128 ^ i) (λy hy=>hb y (by simp[hy])) hp with h|⟨a,b,c,d,e⟩
   ·exact .inl h
   ·refine .inr ⟨a,b,c,zB,?_⟩;rw[zY2];omega
  ·rw[zYo h1];by_cases h2:4294967295<n+x.tmod 128*128 ^ i∨(0<i/\x=0)
   ·exact .inl (zYp h2)
   ·rw[zYo h2];refine .inr ⟨rfl,hp,zB,yAu _,?_⟩
    show(i:Int)+1<=_
    rw[zY2];omega
theorem zAx (b:List Int) (hb:BY b):bZ b=(0,0,6)∨((bZ b).2.2=0/\0<=(bZ b).1/\(bZ b).1<=4294967295/\1<=(bZ b).2.1/\(bZ b).2.1<=b.length):=by
 have:=zIv b 0 0 hb (yAu _)
 rcases this with h|⟨a,b,c,d,e⟩
 ·exact .inl h
 ·exact .inr ⟨a,b,c,by have:(0:Int)+1<=(bZ _).2.1:=d;omega,by have:(bZ _).2.1<=(0:Int)+_:=e;omega⟩
def WU:Nat->List Int->Option (List Int×List Int)
 |0,b=>some ([],b)
 |n+1,b=>if(bZ b).2.2=0 then(match WU n (b.drop (bZ b).2.1.toNat)with|none=>none|some (l,r)=>some ((bZ b).1::l,r))else none
def nbG (l:List Int):Option (List Int×List Int)->Option (List Int×List Int)
 |none=>none
 |some (k,r)=>some (l++k,r)
theorem zCl (o:Option (List Int×List Int)):nbG [] o=o:=by
 cases o with
 |none=>rfl
 |some p=>rfl
theorem zIw {l b:List Int} {n:Nat} (h:(bZ b).2.2≠0):nbG l (WU (n+1) b)=none:=by
 rw[WU,zYo h];rfl
theorem zIx {l b:List Int} {n:Nat} (h:(bZ b).2.2=0):nbG l (WU (n+1) b)=nbG (l++[(bZ b).1]) (WU n (b.drop (bZ b).2.1.toNat)):=by
 rw[WU,zYp h]
 cases WU n (b.drop (bZ b).2.1.toNat)with
 |none=>rfl
 |some p=>obtain⟨k,r⟩:=p;simp[nbG]
def nbT:Option (List Int×List Int)->AV
 |none=> .tup [zD iA [],zD yA [],bA false]
 |some (l,r)=> .tup [zD iA l,zD yA r,bA true]
theorem YH (b:List Int) (n:Nat) (hb:BY b) (hbn:b.length<=100000) (hn:n<=1000):zO 135 [zD yA b,iA n] [] (nbT (WU n b)) []:=by
 refine eM call135 λF hF=>?_
 refine WW ?_;refine vZ 12 rfl ?_;refine xV (n) [12] [] [13] [0,7,14,13] rfl (λi T U zs=>∃acc c,(acc.length=i/\BY c/\c.length<=100000/\WU n b=nbG acc (WU (n-i) c))/\zs=⟨(0,zD yA c)::(7,.ref 12 0 (acc.map iA).length)::(14,iA i)::T,(12,.arr 1 (acc.map iA) true)::U⟩) ?_;(conv=>whnf);refine⟨?_,?_,?_⟩
 ·exact⟨[],b,⟨rfl,hb,hbn,by rw[zCl];rfl⟩,rfl⟩
 ·rintro i st hi ⟨acc,c,⟨q0,q1,q2,q3⟩,rfl⟩;have hd:=zWe c q1 q2;have hl:=zA yA c;have hla:=zA iA acc;rw[show n-i=(n-(i+1))+1 by omega]at q3
  rcases zAx c q1 with h|⟨h1,h2,h3,h4,h5⟩
  ·rw[q3,zIw (by rw[h];decide)];rw[h]at hd;clear q3 h
   show uI _ _ _ _ _ (XY (inB 0 (LP _ _ _ _ (Fin _ _ [] (.tup [zD iA [],zD yA [],bA false]) []))) _)
   refine zW hd ?_;exact zL
  ·rw[zIx h1]at q3;rw[h1]at hd;have hbd:BY (c.drop (bZ c).2.1.toNat):=λy hy=>q1 y (zZn hy)
   have hcd:(c.drop (bZ c).2.1.toNat).length<=100000:=by rw[zZk];omega
   clear h1;rw[q3];generalize (bZ c).1=v at *;generalize (bZ c).2.1=k at *;refine zW hd ?_;refine⟨acc++[v],c.drop k.toNat,⟨by simp[q0],hbd,hcd,rfl⟩,?_⟩;rw[zYz];rfl
 ·rintro st ⟨acc,c,⟨q0,q1,q2,q3⟩,rfl⟩;rw[q3,yA0]
  show uI _ _ _ _ _ (XY (inB 0 (LP _ _ _ _ (Fin _ _ [] (.tup [zD iA (acc++[]),zD yA c,bA true]) []))) _)
  rw[zZo];refine WW ?_;exact zI [] rfl rfl (zZl (λz=>AV.tup [z,zD yA c,bA true]) (bI _ _)) rfl
def enR:Nat->Int->List Int
 |0,n=>[n]
 |f+1,n=>if n<128 then [n]else(n % 128+128)::enR f (n/128)
def cO (n:Int):List Int:=enR 4 n
theorem zAy {n:Int} {z:Nat} (h:n<128 ^ (z+1+1)):n/128<128 ^ (z+1):=Int.ediv_lt_of_lt_mul xN (by rw[yEe]at h;exact h)
theorem NB {f:Nat} {n:Int} (h:n<128):enR f n=[n]:=by
 cases f with
 |zero=>rfl
 |succ f=>exact zYp h
theorem IY {f:Nat} {n:Int} (h:128<=n):enR (f+1) n=(n % 128+128)::enR f (n/128):=zYo zB
theorem zWn (n:Int) (h0:0<=n) (h1:n<=4294967295):zO 174 [iA n] [] (.tup [zD yA (cO n),iA 0]) []:=by
 have cs:=zG7 n
 have hsz:1<=szF n:=by
  rw[zG6 h0 h1];unfold lgF
  repeat' split
  all_goals omega
 generalize szF n=s at *;generalize hR:cO n=R;refine eM call174 λF hF=>?_
 refine zW cs ?_;refine xK 4 1001 1 rfl rfl rfl ?_;refine gY (4) [1001] [] [] [0,4] rfl (λzn T U zs=>∃(m:Int) (acc:List Int),(0<=m/\m<=4294967295/\m<128 ^ (zn+1)/\acc.length+zn=4/\acc++enR zn m=R)/\zs=⟨(0,iA m)::(4,.ref 1001 0 (acc.map yA).length)::T,(1001,.arr 1 (acc.map yA) true)::U⟩) ?_;(conv=>whnf);refine⟨?_,?_⟩
 ·exact⟨n,[],⟨h0,h1,by show n<34359738368;omega,rfl,hR⟩,rfl⟩
 ·rintro zn st ⟨m,acc,⟨q0,q1,q2,q3,q4⟩,rfl⟩;have hla:=zA yA acc;by_cases hm:128<=m
  ·obtain⟨z,rfl⟩:∃z,zn=z+1:=by
    cases zn with
    |zero=>exfalso;have:m<128:=q2;omega
    |succ z=>exact⟨z,rfl⟩
   rw[IY hm]at q4;have hd:=zAy q2;have ht:m.tmod 128=m % 128:=yAi q0;have hmd:m.tdiv 128=m/128:=yAh q0;have hir:XB .i64 (m.tdiv 128):=⟨zB,zB⟩;clear q2;refine WW ?_;refine⟨z,zB,m.tdiv 128,acc++[m.tmod 128+128],⟨zB,zB,by rw[hmd];exact hd,by simp;omega,by rw[hmd,ht,zZc];exact q4⟩,?_⟩;rw[zYz];rfl
  ·rw[NB zB]at q4;clear q2;subst q4;refine WW ?_;refine zI [] rfl rfl ?_ rfl
   show AV.tup [AV.sl false ((acc.map yA++[yA m]).take (acc.map yA++[yA m]).length),iA 0]=_
   rw[zYv];unfold zD;rw[zYz];rfl
theorem zO4 {n:Int} (h0:0<=n) (h1:n<=4294967295):eI n 127=n % 128:=by
 obtain⟨a,rfl⟩:=yB1 h0;unfold eI;rw[show BitVec.ofInt IntKind.i64.bits (a:Int)=BitVec.ofNat IntKind.i64.bits a from yCp ..];rw[show BitVec.ofInt IntKind.i64.bits (127:Int)=BitVec.ofNat IntKind.i64.bits 127 from rfl];rw[BitVec.toNat_and,yCl,yCl,yBn (show a<2 ^ IntKind.i64.bits by show a<18446744073709551616;omega),yBn (show 127<2 ^ IntKind.i64.bits by decide)];have e:a &&& 127=a % 128:=Nat.and_two_pow_sub_one_eq_mod a 7;rw[e];exact kL (k:= .i64) (by unfold XB;omega)
theorem zWo:∀k:_root_.Fin 128,IntKind.u8.wrap (BitVec.ofInt IntKind.u8.bits (k.val:Int) ||| BitVec.ofInt IntKind.u8.bits 128).toNat=(k.val:Int)+128:=by decide +kernel
section
variable {P:Program} {tm:List (Nat×AV)} {h:List (Nat×xP)} {tx ty:Nat} {x y:Operand}
theorem zO5 {m:Int} (hx:yO (zG tm) x= .s (.int .u8 m)) (hy:yO (zG tm) y= .s (.int .u8 128)) (h0:0<=m/\m<128):wR P ⟨tm,h⟩ (.binOp .or tx x y ty) (.s (.int .u8 (m+128))) [] [] []:=by
 have e:=zWo ⟨m.toNat,zB⟩;simp only[show((m.toNat:Nat):Int)=m by omega]at e;rw[<-e];exact IH hx hy
end
theorem zWp (n:Int) (h0:0<=n) (h1:n<=4294967295):zO 126 [iA n] [] (.tup [zD yA (cO n),iA 0]) []:=by
 generalize hR:cO n=R;refine eM call126 λF hF=>?_
 refine WW ?_;refine vZ 11 rfl ?_;refine gY (4) [11] [] [] [0,4] rfl (λzn T U zs=>∃(m:Int) (acc:List Int),(0<=m/\m<=4294967295/\m<128 ^ (zn+1)/\acc.length+zn=4/\acc++enR zn m=R)/\zs=⟨(0,iA m)::(4,.ref 11 0 (acc.map yA).length)::T,(11,.arr 1 (acc.map yA) true)::U⟩) ?_;(conv=>whnf);refine⟨?_,?_⟩
 ·exact⟨n,[],⟨h0,h1,by show n<34359738368;omega,rfl,hR⟩,rfl⟩
 ·rintro zn st ⟨m,acc,⟨q0,q1,q2,q3,q4⟩,rfl⟩;have hla:=zA yA acc;by_cases hm:128<=m
  ·obtain⟨z,rfl⟩:∃z,zn=z+1:=by
    cases zn with
    |zero=>exfalso;have:m<128:=q2;omega
    |succ z=>exact⟨z,rfl⟩
   rw[IY hm]at q4;have hd:=zAy q2;have ha:=zO4 q0 q1;have hab:0<=eI m 127/\eI m 127<128:=by omega
   have hs:uT m 7=m/128:=yB9 m xN;clear q2
   (repeat' (first|refine qS ?_|refine xR (λhc=>?_) (λhc=>?_)|refine wE (λhc=>?_)|(refine zE ?_;first|(refine wS ?_;refine yF (zO5 rfl rfl hab) rfl ?_)|refine SM ?_)|fail))
   refine⟨z,zB,uT m 7,acc++[eI m 127+128],⟨zB,zB,by rw[hs];exact hd,by simp;omega,by rw[hs,ha,zZc];exact q4⟩,?_⟩;rw[zYz];rfl
  ·rw[NB zB]at q4;clear q2;subst q4;refine WW ?_;refine zI [] rfl rfl ?_ rfl
   show AV.tup [AV.sl false ((acc.map yA++[yA m]).take (acc.map yA++[yA m]).length),iA 0]=_
   rw[zYv];unfold zD;rw[zYz];rfl
theorem DG:∀(r:List Int) (i:Nat) (n:Int),BY r->i<=5->(aF r i n).2.2=0->∃q:Int,0<=q/\(aF r i n).1=n+q*128 ^ i/\(0<i->0<q)/\i<=4/\∃j:Nat,(aF r i n).2.1=((i+j:Nat):Int)/\enR (4-i) q=r.take j
 | [],i,n,_,_,h=>by exact absurd (show(6:Int)=0 from h) xN
 | x ::r,i,n,hb,h5,h=>by
  have hx:=hb x zU;by_cases hi:i=5
  ·exfalso;rw[aF,zYp hi]at h;exact absurd (show(6:Int)=0 from h) xN
  by_cases hx1:128<=x
  ·have e:aF (x::r) i n=aF r (i+1) (n+x.tmod 128*128 ^ i):=by rw[aF,zYo hi,zYp hx1]
   rw[e]at h⊢;obtain⟨q,q0,q1,q2,q3,j,q4,q5⟩:=DG r (i+1) _ (λy hy=>hb y (by simp[hy])) zB h;have ht:x.tmod 128=x % 128:=yAi hx.1;have hq:=q2 zB;refine⟨x.tmod 128+q*128,zB,?_,λ_=>by omega,zB,j+1,by rw[q4];omega,?_⟩
   ·rw[q1,yEe,Int.add_mul,Int.mul_assoc,Int.mul_comm 128,Int.add_assoc]
   ·obtain⟨f,hf⟩:∃f,4-i=f+1:=⟨3-i,zB⟩;rw[hf,IY zB,yCw,<-q5,show 4-(i+1)=f by omega]
    congr 1
    ·omega
    ·congr 1
     omega
  ·have hxm:x.tmod 128=x:=by rw[yAi hx.1];omega
   have e:aF (x::r) i n=if 4294967295<n+x.tmod 128*128 ^ i∨(0<i/\x=0)then(0,0,6)else(n+x.tmod 128*128 ^ i,(i:Int)+1,0):=by rw[aF,zYo hi,zYo hx1]
   rw[e]at h⊢;by_cases hbad:4294967295<n+x.tmod 128*128 ^ i∨(0<i/\x=0)
   ·rw[zYp hbad]at h;exact absurd (show(6:Int)=0 from h) xN
   ·rw[zYo hbad,hxm];refine⟨x,hx.1,rfl,λh0=>?_,zB,1,by show(i:Int)+1=_;omega,?_⟩
    ·have:x≠0:=λh=>hbad (.inr ⟨h0,h⟩)
     omega
    ·rw[NB zB];rfl
theorem zIy {b:List Int} (hb:BY b) (h:(bZ b).2.2=0):cO (bZ b).1=b.take (bZ b).2.1.toNat:=by
 obtain⟨q,_,q1,_,_,j,q4,q5⟩:=DG b 0 0 hb zB h
 have e1:(bZ b).1=q:=by
  show(aF b 0 0).1=q
  rw[q1];simp
 have e2:(bZ b).2.1.toNat=j:=by
  show(aF b 0 0).2.1.toNat=j
  rw[q4];simp
 rw[e1,e2];exact q5
theorem bV:∀(n:Nat) (b l r:List Int),BY b->WU n b=some (l,r)->l.length=n/\BY r/\(∀x∈l,0<=x/\x<=4294967295)/\b=(l.map cO).flatten++r
 |0,b,l,r,hb,h=>by
  cases h;exact⟨rfl,hb,by simp,rfl⟩
 | n +1,b,l,r,hb,h=>by
  rw[WU]at h;by_cases he:(bZ b).2.2=0
  ·rw[zYp he]at h
   rcases zAx b hb with h0|⟨_,h2,h3,h4,h5⟩
   ·rw[h0]at he;exact absurd (show(6:Int)=0 from he) xN
   cases hn:WU n (b.drop (bZ b).2.1.toNat)with
   |none=>rw[hn]at h;cases h
   | some p=>
    obtain⟨l',r'⟩:=p;rw[hn]at h;cases h;obtain⟨g1,g2,g3,g4⟩:=bV n _ l' r (λy hy=>hb y (zZn hy)) hn;refine⟨by simp[g1],g2,λx hx=>?_,?_⟩
    ·rcases zZ5.1 hx with rfl|hx
     ·exact⟨h2,h3⟩
     ·exact g3 x hx
    ·rw[yAa,yBf,zIy hb he,zZc,<-g4,yCe]
  ·rw[zYo he]at h;cases h
theorem DH (b:List Int) (n:Nat) (l r:List Int) (hb:BY b) (hbn:b.length<=100000) (hn:n<=1000) (hok:WU n b=some (l,r)):zO 135 [zD yA b,iA n] [] (.tup [.ref 1001 0 (l.map iA).length,zD yA r,bA true]) [(1001,.arr 1 (l.map iA) true)]:=by
 refine eM call135 λF hF=>?_
 (repeat' (first|refine qS ?_|refine xR (λhc=>?_) (λhc=>?_)|refine wE (λhc=>?_)|(refine zE ?_;first|(refine gT ?_;refine cI 1001 tok rfl rfl rfl rfl rfl rfl rfl rfl rfl rfl rfl rfl rfl zB zB rfl rfl rfl ?_))|fail))
 refine vZ 1001 rfl ?_;refine xV (n) [1001] [] [13] [0,7,14,13] rfl (λi T U zs=>∃acc c,(acc.length=i/\BY c/\c.length<=100000/\WU n b=nbG acc (WU (n-i) c))/\zs=⟨(0,zD yA c)::(7,.ref 1001 0 (acc.map iA).length)::(14,iA i)::T,(1001,.arr 1 (acc.map iA) true)::U⟩) ?_;(conv=>whnf);refine⟨?_,?_,?_⟩
 ·exact⟨[],b,⟨rfl,hb,hbn,by rw[zCl];rfl⟩,rfl⟩
 ·rintro i st hi ⟨acc,c,⟨q0,q1,q2,q3⟩,rfl⟩;have hd:=zWe c q1 q2;have hl:=zA yA c;have hla:=zA iA acc;rw[show n-i=(n-(i+1))+1 by omega]at q3
  rcases zAx c q1 with h|⟨h1,h2,h3,h4,h5⟩
  ·rw[zIw (by rw[h];decide),hok]at q3;cases q3
  ·rw[zIx h1]at q3;rw[h1]at hd;have hbd:BY (c.drop (bZ c).2.1.toNat):=λy hy=>q1 y (zZn hy)
   have hcd:(c.drop (bZ c).2.1.toNat).length<=100000:=by rw[zZk];omega
   clear h1;generalize (bZ c).1=v at *;generalize (bZ c).2.1=k at *;refine zW hd ?_;refine⟨acc++[v],c.drop k.toNat,⟨by simp[q0],hbd,hcd,q3⟩,?_⟩;rw[zYz];rfl
 ·rintro st ⟨acc,c,⟨q0,q1,q2,q3⟩,rfl⟩;rw[yA0,hok]at q3;have e:(l,r)=(acc++[],c):=yA2 q3;rw[zZo]at e;cases e;refine WW ?_;exact zJ [1001] rfl rfl rfl rfl
def jQ (k:Int):Nat:=if k=2∨k=6 then 3 else if k=4 then 2 else if k=1∨k=9∨k=12 then 0 else 1
def uR (k:Int):Nat:=if k=6 then 4 else if k=7 then 2 else 0
def shA (fx gr:Nat):AV:= .agg [iA 10,iA fx,iA gr,iA (if gr=0 then 0 else 1),iA (if gr=0 then 0 else 3),iA 0]
theorem zE0 (k:Int) (h0:1<=k) (h1:k<=12):zO 124 [iA k] [] (.tup [shA (jQ k) (uR k),bA true]) []:=by
 obtain rfl|rfl|rfl|rfl|rfl|rfl|rfl|rfl|rfl|rfl|rfl|rfl:k=1∨k=2∨k=3∨k=4∨k=5∨k=6∨k=7∨k=8∨k=9∨k=10∨k=11∨k=12:=by omega
 all_goals (refine eM call124 λF hF=>?_)
 all_goals (refine WW ?_)
 all_goals exact zL
def dcF (fx gr:Nat) (p:List Int):Option (List Int):=
 if 200<p.length∨p.length<10 then none else match WU fx (p.drop 10)with
 |none=>none
 | some (a,r)=>if gr=0 then(if r=[]then some a else none)else match WU 1 r with
  |none=>none
  |some (c,r2)=>if c.getD 0 0<1∨3<c.getD 0 0 then none else match WU ((c.getD 0 0).toNat*gr) r2 with
   |none=>none
   |some (f,r3)=>if r3=[]then some (a++f)else none
def deT (k:Int) (tok:List Int):Option (List Int)->AV
 |none=> .tup [yB ⟨0,[],[],[]⟩,iA 6]
 |some a=> .tup [yB ⟨k,tok,a,[]⟩,iA 0]
theorem zIz (k:Int) (h0:1<=k) (h1:k<=12) (p:List Int) (hb:BY p) (hn:p.length<=100000):zO 80 [iA k,zD yA p] [] (deT k (p.take 10) (dcF (jQ k) (uR k) p)) []:=by
 have hl:=zA yA p;have c1:=zE0 k h0 h1
 have hf:jQ k<=3:=by
  unfold jQ
  repeat' split
  all_goals omega
 have hg:uR k=0∨(2<=uR k/\uR k<=4):=by
  unfold uR
  repeat' split
  all_goals omega
 generalize jQ k=fx at *;generalize uR k=gr at *;unfold shA at c1;by_cases hlen:200<p.length∨p.length<10
 ·rw[show dcF fx gr p=none from zYp hlen]
  show zO 80 [iA k,zD yA p] [] (.tup [yB ⟨0,[],[],[]⟩,iA 6]) []
  by_cases h2:200<p.length
  ·(refine eM call80 λF hF=>?_)
   refine zW c1 ?_;exact zL
  ·have h3:=hlen.resolve_left h2;refine eM call80 λF hF=>?_
   refine zW c1 ?_;exact zL
 have e0:dcF fx gr p=_:=zYo hlen;rw[e0];clear e0;have hbd:BY (p.drop 10):=λy hy=>hb y (zZn hy)
 have hdl:(p.drop 10).length<=100000:=by rw[zZk];omega
 have c2:=YH (p.drop 10) fx hbd hdl zB
 cases hnb:WU fx (p.drop 10)with
 |none=>
  rw[hnb]at c2
  show zO 80 [iA k,zD yA p] [] (.tup [yB ⟨0,[],[],[]⟩,iA 6]) []
  unfold nbT at c2;refine eM call80 λF hF=>?_
  refine xA (vD c1 c2) ?_;exact zL
 |some q=>
 obtain⟨a,r⟩:=q;obtain⟨ha,hbr,har,hsp⟩:=bV _ _ _ _ hbd hnb
 have hrl:r.length<=100000:=by
  have:=zZl List.length hsp;rw[zYr]at this;omega
 have hlr:=zA yA r;have hla:=zA iA a;have k1:=wK (p.take 10) zB6
 rcases hg with rfl|⟨g2,g4⟩
 ·rw[hnb]at c2;unfold nbT at c2;dsimp only;rw[zYp rfl];by_cases hr:r=[]
  ·subst hr;have k2:=wK [] zU;rw[zYp rfl]
   show zO 80 [iA k,zD yA p] [] (.tup [yB ⟨k,p.take 10,a,[]⟩,iA 0]) []
   refine eM call80 λF hF=>?_
   refine xA (aG c1 c2 k1 k2) ?_;exact zL
  ·have hr0:r.length≠0:=λh=>hr (zZp h)
   rw[zYo hr]
   show zO 80 [iA k,zD yA p] [] (.tup [yB ⟨0,[],[],[]⟩,iA 6]) []
   refine eM call80 λF hF=>?_
   refine xA (vD c1 c2) ?_;exact zL
 have c2o:=DH (p.drop 10) fx a r hbd hdl zB hnb;have c3:=YH r 1 hbr hrl zB;clear c2;dsimp only;rw[zYo zB]
 cases hnc:WU 1 r with
 |none=>
  rw[hnc]at c3;unfold nbT at c3
  show zO 80 [iA k,zD yA p] [] (.tup [yB ⟨0,[],[],[]⟩,iA 6]) []
  refine eM call80 λF hF=>?_
  refine xA (gK c1 c2o c3) ?_;exact zL
 |some q2=>
 obtain⟨c,r2⟩:=q2;obtain⟨hc1,hbr2,hcr,hsp2⟩:=bV _ _ _ _ hbr hnc
 obtain⟨v,rfl⟩:∃v,c=[v]:=by
  cases c with
  |nil=>cases hc1
  |cons v c=>cases c with
   |nil=>exact⟨v,rfl⟩
   |cons w c=>simp at hc1
 have hrl2:r2.length<=100000:=by
  have:=zZl List.length hsp2;rw[zYr]at this;omega
 rw[hnc]at c3;unfold nbT at c3;dsimp only;rw[show [v].getD 0 0=v from rfl];by_cases hv:v<1∨3<v
 ·rw[zYp hv]
  show zO 80 [iA k,zD yA p] [] (.tup [yB ⟨0,[],[],[]⟩,iA 6]) []
  by_cases hv1:v<1
  ·(refine eM call80 λF hF=>?_)
   refine xA (gK c1 c2o c3) ?_;exact zL
  ·have hv2:=hv.resolve_left hv1;refine eM call80 λF hF=>?_
   refine xA (gK c1 c2o c3) ?_;exact zL
 rw[zYo hv];have hvg:v.toNat*gr<=12:=zZy (yBw (show v.toNat<=3 by omega) g4) xN;have evg:((v.toNat*gr:Nat):Int)=v*(gr:Int):=by rw[Int.natCast_mul,yD1 zB]
 have c4:=YH r2 (v.toNat*gr) hbr2 hrl2 zB;rw[evg]at c4;have hm:0<=v*(gr:Int)/\v*(gr:Int)<=12:=by rw[<-evg];omega
 clear evg
 cases hnd:WU (v.toNat*gr) r2 with
 |none=>
  rw[hnd]at c4;unfold nbT at c4
  show zO 80 [iA k,zD yA p] [] (.tup [yB ⟨0,[],[],[]⟩,iA 6]) []
  refine eM call80 λF hF=>?_
  refine xA (aG c1 c2o c3 c4) ?_;exact zL
 |some q3=>
 obtain⟨f,r3⟩:=q3;obtain⟨hfl,hbr3,hfr,hsp3⟩:=bV _ _ _ _ hbr2 hnd;have hlf:=zA iA f;have hlr3:=zA yA r3;rw[hnd]at c4;unfold nbT at c4;dsimp only;by_cases hr:r3=[]
 ·subst hr;have k2:=wK [] zU;rw[zYp rfl]
  show zO 80 [iA k,zD yA p] [] (.tup [yB ⟨k,p.take 10,a++f,[]⟩,iA 0]) []
  refine eM call80 λF hF=>?_
  refine xA (zt6 c1 c2o c3 c4 k1 k2) ?_;refine zI [] rfl rfl ?_ rfl
  show AV.tup [.agg [iA k,zD yA (p.take 10),.sl false ((a.map iA++f.map iA).take (a.map iA++f.map iA).length),zD yA []],iA 0]=_
  rw[zYv,<-zYz];rfl
 ·have hr0:r3.length≠0:=λh=>hr (zZp h)
  rw[zYo hr]
  show zO 80 [iA k,zD yA p] [] (.tup [yB ⟨0,[],[],[]⟩,iA 6]) []
  refine eM call80 λF hF=>?_
  refine xA (aG c1 c2o c3 c4) ?_;exact zL
def zTp (fx gr:Nat):AV:= .agg [iA fx,iA gr,iA (if gr=0 then 0 else 1),iA (if gr=0 then 0 else 3),iA 0]
theorem zI0 (k:Int) (h0:1<=k) (h1:k<=12):zO 138 [iA k] [] (zTp (jQ k) (uR k)) []:=by
 obtain rfl|rfl|rfl|rfl|rfl|rfl|rfl|rfl|rfl|rfl|rfl|rfl:k=1∨k=2∨k=3∨k=4∨k=5∨k=6∨k=7∨k=8∨k=9∨k=10∨k=11∨k=12:=by omega
 all_goals (refine eM call138 λF hF=>?_)
 all_goals (refine WW ?_)
 all_goals exact zL
def BN (fx gr:Nat) (c:Int):Nat->List Int->List Int
 |_,[]=>[]
 |i,x::r=>(if i=fx/\gr≠0 then [c]else [])++(cO x++BN fx gr c (i+1) r)
def NC (fx gr:Nat) (c:Int) (m:Ms):List Int:=(m.tok++BN fx gr c 0 m.args)++((if gr≠0/\m.args.length=fx then [0]else [])++m.data)
theorem zCm:∀(f:Nat) (n:Int),1<=(enR f n).length/\(enR f n).length<=f+1
 |0,n=>by simp[enR]
 |f+1,n=>by
  have:=zCm f (n/128);rw[enR];split
  ·simp
  ·rw[zY2];omega
theorem fD (n:Int):1<=(cO n).length/\(cO n).length<=5:=zCm 4 n
theorem LZ (k:Int) (h0:1<=k) (h1:k<=12) (m:Ms) (c:Nat) (hk:m.kind=k) (ht:m.tok.length=10) (hd:m.data.length<=100000) (ha:∀x∈m.args,0<=x/\x<=4294967295) (hn:m.args.length<=1000) (hc:uR k≠0->m.args.length=jQ k+c*uR k) (hc3:c<=3):
  zO 140 [yB m] [] (zD yA (NC (jQ k) (uR k) c m)) []:=by
 subst hk;have c1:=zI0 m.kind h0 h1
 have hg:uR m.kind<=4:=by
  unfold uR
  repeat' split
  all_goals omega
 generalize jQ m.kind=fx at *;generalize uR m.kind=gr at *;unfold zTp at c1;have hlt:=zA yA m.tok;have hla:=zA iA m.args;have hld:=zA yA m.data;unfold NC;generalize hT:m.tok++BN fx gr c 0 m.args=tot;refine eM call140 λF hF=>?_
 (have zc1:=c1;(repeat' (first|refine qS ?_|refine xR (λhc=>?_) (λhc=>?_)|refine wE (λhc=>?_)|(refine zE ?_;first|(refine yW ?_;refine gU 1001 tok rfl rfl rfl rfl rfl rfl (yY _ _ (λ_=>rfl)) rfl rfl rfl zB rfl rfl rfl ?_))|fail))<;>clear zc1)
 refine vZ 1001 rfl ?_;refine kR (m.args) [1001,1,3] [1,3] [1,3,16,17] [4,18,1,3,16,17] rfl (λi pre T U zs=>∃acc:List Int,(acc.length<=10+6*i/\∀post,m.args=pre++post->acc++BN fx gr c i post=tot)/\zs=⟨(4,.ref 1001 0 (acc.map yA).length)::(18,iA i)::T,(1001,.arr 1 (acc.map yA) true)::U⟩) ?_;(conv=>whnf);refine⟨?_,?_,?_⟩
 ·exact⟨m.tok,⟨zB,λpost h=>by rw[<-hT,h];rfl⟩,rfl⟩
 ·rintro i pre x post st hx hi ⟨acc,⟨q0,q1⟩,rfl⟩;have hy:=xO iA hx hi;have hlt2:=yX hx hi;have hxr:=ha x (wY hx);have hla2:=zA yA acc;have he:=fD x;have c2:=zWn x hxr.1 hxr.2;have hle:=zA yA (cO x)
  have hpost:∀p,m.args=pre++[x]++p->p=post:=λp h=>by
   rw[hx,zZc]at h;simpa using h.symm
  have hT3:=q1 _ hx;clear q1 hT hx;by_cases hi2:i=fx/\gr≠0
  ·obtain⟨rfl,hg0⟩:=hi2;have hcl:=hc hg0
   have hq:(((m.args.map iA).length:Int)-(i:Int)).tdiv (gr:Int)=(c:Int):=by
    rw[hla,hcl,show(((i+c*gr:Nat):Int)-(i:Int))=(c:Int)*(gr:Int) by rw[yEg,Int.natCast_mul];omega];exact Int.mul_tdiv_cancel _ zB
   have hir:XB .i64 ((((m.args.map iA).length:Int)-(i:Int)).tdiv (gr:Int)):=by rw[hq];exact⟨zB,zB⟩
   have e:BN i gr c i (x::post)=[(c:Int)]++(cO x++BN i gr c (i+1) post):=by rw[BN,zYp ⟨rfl,hg0⟩]
   rw[e]at hT3;clear e hcl hc;generalize cO x=ex at *;refine xA (vD c1 c2) ?_;refine⟨acc++[(c:Int)]++ex,⟨by simp;omega,λp h=>by rw[hpost p h,<-hT3];simp⟩,?_⟩;rw[zYz,zYz,<-hq];rfl
  ·have e:BN fx gr c i (x::post)=cO x++BN fx gr c (i+1) post:=by rw[BN,zYo hi2];rfl
   rw[e]at hT3;clear e hc;generalize cO x=ex at *;by_cases hif:i=fx
   ·have hg0:gr=0:=by
     by_cases h:gr=0
     ·exact h
     ·exact absurd ⟨hif,h⟩ hi2
    refine xA (vD c1 c2) ?_;refine⟨acc++ex,⟨by simp;omega,λp h=>by rw[hpost p h,<-hT3];simp⟩,?_⟩;rw[zYz];rfl
   ·(refine xA (vD c1 c2) ?_)
    refine⟨acc++ex,⟨by simp;omega,λp h=>by rw[hpost p h,<-hT3];simp⟩,?_⟩;rw[zYz];rfl
 ·rintro st ⟨acc,⟨q0,q1⟩,rfl⟩;have e:=q1 [] zU;rw[show BN fx gr c m.args.length []=[]from rfl,zZo]at e;subst e;have hla2:=zA yA acc;clear q1 hT hc;by_cases hz:gr≠0/\m.args.length=fx
  ·rw[zYp hz];obtain⟨hz1,hz2⟩:=hz;refine WW ?_;refine zI [] rfl rfl ?_ rfl
   show AV.sl false ((acc.map yA++[yA 0]++m.data.map yA).take (acc.map yA++[yA 0]++m.data.map yA).length)=_
   rw[zYv];unfold zD;rw[zYz,zYz,zZc];rfl
  ·rw[zYo hz];by_cases hz1:gr=0
   ·(refine WW ?_)
    refine zI [] rfl rfl ?_ rfl
    show AV.sl false ((acc.map yA++m.data.map yA).take (acc.map yA++m.data.map yA).length)=_
    rw[zYv];unfold zD;rw[zYz];rfl
   ·have hz2:m.args.length≠fx:=λh=>hz ⟨hz1,h⟩
    refine WW ?_;refine zI [] rfl rfl ?_ rfl
    show AV.sl false ((acc.map yA++m.data.map yA).take (acc.map yA++m.data.map yA).length)=_
    rw[zYv];unfold zD;rw[zYz];rfl
def prA (p:Int×Int):AV:= .agg [iA p.1,iA p.2]
def qI (n:Int):List (Int×Int):=if n=0 then [(0,0),(0,0)]else if n=1 then [(0,0),(1,0),(0,1),(1,1)]else if n=2 then [(0,0),(1,0),(0,0)]
 else if n=3 then [(0,0),(0,0),(1,0),(1,0),(0,1),(0,1),(1,1),(1,1)]else if n=4 then [(1,0),(0,1),(0,2)]else [(0,0)]
theorem zI1 (n:Int):zO 87 [iA n] [] (zD prA (qI n)) []:=by
 by_cases h0:n=0
 ·subst h0;refine eM call87 λF hF=>?_
  (repeat' (first|refine ZY ?_|refine xR (λhc=>?_) (λhc=>?_)|fail))
  exact zL
 by_cases h1:n=1
 ·subst h1;refine eM call87 λF hF=>?_
  (repeat' (first|refine ZY ?_|refine xR (λhc=>?_) (λhc=>?_)|fail))
  exact zL
 by_cases h2:n=2
 ·subst h2;refine eM call87 λF hF=>?_
  (repeat' (first|refine ZY ?_|refine xR (λhc=>?_) (λhc=>?_)|fail))
  exact zL
 by_cases h3:n=3
 ·subst h3;refine eM call87 λF hF=>?_
  (repeat' (first|refine ZY ?_|refine xR (λhc=>?_) (λhc=>?_)|fail))
  exact zL
 by_cases h4:n=4
 ·subst h4;refine eM call87 λF hF=>?_
  (repeat' (first|refine ZY ?_|refine xR (λhc=>?_) (λhc=>?_)|fail))
  exact zL
 rw[show qI n=[(0,0)] by simp[qI,h0,h1,h2,h3,h4]];refine eM call87 λF hF=>?_
 (repeat' (first|refine ZY ?_|refine xR (λhc=>?_) (λhc=>?_)|fail))
 exact zL
instance:Inhabited (Int×Int):=⟨(0,0)⟩
def TB (d:Dk) (s:Int×Int):Ph:=
 if nx (ad (ad (ad d))) 3=2 then⟨s.1,s.2,1+nx d (3-1+1),max (1+nx d (3-1+1)) (1+nx (ad (ad (ad (ad d)))) (2-1+1)+(1+nx (ad (ad (ad (ad (ad d))))) (2-1+1)))+nx (ad (ad (ad (ad (ad (ad d)))))) 4,1+nx (ad d) (2-1+1),nx (ad (ad d)) 3,1+nx (ad (ad (ad (ad d)))) (2-1+1),1+nx (ad (ad (ad (ad (ad d))))) (2-1+1)⟩
 else⟨s.1,s.2,1+nx d (3-1+1),max (1+nx d (3-1+1)) (0+0)+nx (ad (ad (ad (ad d)))) 4,1+nx (ad d) (2-1+1),nx (ad (ad d)) 3,0,0⟩
def phD (d:Dk):Dk:=if nx (ad (ad (ad d))) 3=2 then ad (ad (ad (ad (ad (ad (ad d))))))else ad (ad (ad (ad (ad d))))
def KA (d:Dk) (l:List (Int×Int)):Nat->List Ph×Dk
 |0=>([],d)
 |i+1=>((KA d l i).1++[TB (KA d l i).2 (l.getD i default)],phD (KA d l i).2)
theorem UN (d:Dk) (l:List (Int×Int)):∀i,(KA d l i).1.length=i
 |0=>rfl
 |i+1=>by simp[KA,UN d l i]
def cnd (ps:List Ph) (ex:Bool) (i k:Nat):Bool:=i != k&&((ps.getD i default).ring==(ps.getD k default).ring||(ps.getD i default).group != (ps.getD k default).group||ex&&((i:Int)+k).tmod 2==1)
def YU (ps:List Ph) (ex:Bool) (i:Nat):Nat->Int
 |0=>0
 |k+1=>if cnd ps ex i k=true then YU ps ex i k+2 ^ k else YU ps ex i k
theorem QJ (ps:List Ph) (ex:Bool) (i:Nat):∀k,0<=YU ps ex i k/\YU ps ex i k<2 ^ k
 |0=>by simp[YU]
 |k+1=>by
  have:=QJ ps ex i k;have e:(2:Int) ^ (k+1)=2 ^ k*2:=yEe 2 k;unfold YU
  split<;>omega
def gL (ps:List Ph) (ex:Bool) (n:Nat):List Int:=(List.range n).map λi=>YU ps ex i ps.length
def WA (d:Dk):List Ph×Dk:=KA (ad (ad d)) (qI (nx d 6)) (qI (nx d 6)).length
def jnF (d:Dk):Jn:=⟨(WA d).1,gL (WA d).1 (nx (WA d).2 4==3) (WA d).1.length,nx (ad d) 3⟩
def jnD (d:Dk):Dk:=ad (WA d).2
theorem ND (n:Int):1<=(qI n).length/\(qI n).length<=8:=by
 unfold qI
 (repeat' split)<;>simp
theorem zX7 (k:Nat) (h:k<8):IntKind.i64.wrap (1*2 ^ (min ((k:Int)).toNat IntKind.i64.bits))=2 ^ k/\(2:Int) ^ k<=128:=by
 obtain rfl|rfl|rfl|rfl|rfl|rfl|rfl|rfl:k=0∨k=1∨k=2∨k=3∨k=4∨k=5∨k=6∨k=7:=by omega
 all_goals decide
theorem zAz (d:Dk):zO 38 [.ptr 1000 0 0] [(1000,cG d)] (wC (jnF d)) [(1000,cG (jnD d))]:=by
 have hb:=yD d 6 zB;have hsl:=ND (nx d 6);have sc:=zI1 (nx d 6);have ej:jnF d=⟨(WA d).1,gL (WA d).1 (nx (WA d).2 4==3) (WA d).1.length,nx (ad d) 3⟩:=rfl;have ed:jnD d=ad (WA d).2:=rfl;have ep:WA d=KA (ad (ad d)) (qI (nx d 6)) (qI (nx d 6)).length:=rfl;rw[ej,ed];generalize WA d=jp at *;generalize qI (nx d 6)=l at *;have hll:(l.map prA).length=l.length:=by simp
 refine eM call38 λF hF=>?_
 (repeat' (first|refine ZY ?_|refine xR (λhc=>?_) (λhc=>?_)|(refine zE ?_;refine xT ?_;(first|(refine vT 87 ?_;first|refine yF (zH (sc) rfl rfl rfl rfl rfl) rfl ?_|refine uF (zH (sc) rfl rfl rfl rfl rfl) rfl rfl rfl ?_|refine bJ (zH (sc) rfl rfl rfl rfl rfl) rfl rfl rfl ?_)|(refine vT 22 ?_;first|refine yF (zH (yJ _ _ zB zB) rfl rfl rfl rfl rfl) rfl ?_|refine uF (zH (yJ _ _ zB zB) rfl rfl rfl rfl rfl) rfl rfl rfl ?_|refine bJ (zH (yJ _ _ zB zB) rfl rfl rfl rfl rfl) rfl rfl rfl ?_)))|fail))
 refine vW 4 0 1001 8 rfl rfl rfl rfl rfl ?_
 refine vA (λn st=>∃i:Nat,n+i=l.length/\st=⟨[(0,.ptr 1000 0 0),(2,.ptr 2 0 0),(4,.ptr 4 0 0),(20,zD prA l),(21,iA l.length),(22,iA i)],
   [(1000,cG (KA (ad (ad d)) l i).2),(2,.box [.s (.slice none 0 0),.s (.slice none 0 0),iA 0]),(4,.box [.ref 1001 0 ((KA (ad (ad d)) l i).1.map vE).length,.s (.slice none 0 0),iA (nx (ad d) 3)]),(1001,.arr 8 ((KA (ad (ad d)) l i).1.map vE) true)]⟩)
  l.length [1000,2,4,1001] [0,2,4,20,21,22] rfl ⟨0,rfl,by rw[<-hll];rfl⟩ ?_
 rintro n st ⟨i,hi,rfl⟩;by_cases hlt:i<l.length
 ·have hy:=yP prA l i zB zB;rw[show((i:Int)).toNat=i from rfl]at hy;have hm:(KA (ad (ad d)) l (i+1)).1.map vE=(KA (ad (ad d)) l i).1.map vE++[vE (TB (KA (ad (ad d)) l i).2 (l.getD i default))]:=zYz;have hd:(KA (ad (ad d)) l (i+1)).2=phD (KA (ad (ad d)) l i).2:=rfl;have hle:=UN (ad (ad d)) l i;generalize l.getD i default=p at *;obtain⟨p1,p2⟩:=p;generalize hq':KA (ad (ad d)) l (i+1)=q' at hm hd;generalize KA (ad (ad d)) l i=q at *;obtain⟨ql,qd⟩:=q;dsimp only at hm hd hle⊢;have b0:=yD qd (3-1+1) zB;have b1:=yD (ad (ad (ad (ad qd)))) 4 zB;have b2:=yD (ad (ad (ad (ad qd)))) (2-1+1) zB;have b3:=yD (ad (ad (ad (ad (ad qd))))) (2-1+1) zB;have b4:=yD (ad (ad (ad (ad (ad (ad qd)))))) 4 zB;by_cases hz:nx (ad (ad (ad qd))) 3=2
  ·rw[show TB qd (p1,p2)=⟨p1,p2,1+nx qd (3-1+1),max (1+nx qd (3-1+1)) (1+nx (ad (ad (ad (ad qd)))) (2-1+1)+(1+nx (ad (ad (ad (ad (ad qd))))) (2-1+1)))+nx (ad (ad (ad (ad (ad (ad qd)))))) 4,1+nx (ad qd) (2-1+1),nx (ad (ad qd)) 3,1+nx (ad (ad (ad (ad qd)))) (2-1+1),1+nx (ad (ad (ad (ad (ad qd))))) (2-1+1)⟩ by unfold TB;rw[zYp hz]]at hm;rw[show phD qd=ad (ad (ad (ad (ad (ad (ad qd)))))) by unfold phD;rw[zYp hz]]at hd
   (repeat' (first|refine ZY ?_|refine xR (λhc=>?_) (λhc=>?_)|(refine zE ?_;refine xT ?_;(first|(refine vT 37 ?_;first|refine yF (zH (kX _ _ _ zB zB zB) rfl rfl rfl rfl rfl) rfl ?_|refine uF (zH (kX _ _ _ zB zB zB) rfl rfl rfl rfl rfl) rfl rfl rfl ?_|refine bJ (zH (kX _ _ _ zB zB zB) rfl rfl rfl rfl rfl) rfl rfl rfl ?_)|(refine vT 22 ?_;first|refine yF (zH (yJ _ _ zB zB) rfl rfl rfl rfl rfl) rfl ?_|refine uF (zH (yJ _ _ zB zB) rfl rfl rfl rfl rfl) rfl rfl rfl ?_|refine bJ (zH (yJ _ _ zB zB) rfl rfl rfl rfl rfl) rfl rfl rfl ?_)))|fail))
   exact⟨n-1,zB,i+1,zB,by rw[hq',hm,hd];rfl⟩
  ·rw[show TB qd (p1,p2)=⟨p1,p2,1+nx qd (3-1+1),max (1+nx qd (3-1+1)) (0+0)+nx (ad (ad (ad (ad qd)))) 4,1+nx (ad qd) (2-1+1),nx (ad (ad qd)) 3,0,0⟩ by unfold TB;rw[zYo hz]]at hm;rw[show phD qd=ad (ad (ad (ad (ad qd)))) by unfold phD;rw[zYo hz]]at hd
   (repeat' (first|refine ZY ?_|refine xR (λhc=>?_) (λhc=>?_)|(refine zE ?_;refine xT ?_;(first|(refine vT 37 ?_;first|refine yF (zH (kX _ _ _ zB zB zB) rfl rfl rfl rfl rfl) rfl ?_|refine uF (zH (kX _ _ _ zB zB zB) rfl rfl rfl rfl rfl) rfl rfl rfl ?_|refine bJ (zH (kX _ _ _ zB zB zB) rfl rfl rfl rfl rfl) rfl rfl rfl ?_)|(refine vT 22 ?_;first|refine yF (zH (yJ _ _ zB zB) rfl rfl rfl rfl rfl) rfl ?_|refine uF (zH (yJ _ _ zB zB) rfl rfl rfl rfl rfl) rfl rfl rfl ?_|refine bJ (zH (yJ _ _ zB zB) rfl rfl rfl rfl rfl) rfl rfl rfl ?_)))|fail))
   exact⟨n-1,zB,i+1,zB,by rw[hq',hm,hd];rfl⟩
 obtain rfl:i=l.length:=by omega
 have hpl:jp.1.length=l.length:=by rw[ep];exact UN _ _ _
 rw[<-ep];clear ep ej ed sc hll hi hlt;obtain⟨ps,dj⟩:=jp;dsimp only at hpl⊢;have hlp:(ps.map vE).length=ps.length:=by simp
 generalize nx (ad d) 3=js
 (repeat' (first|refine ZY ?_|refine xR (λhc=>?_) (λhc=>?_)|(refine zE ?_;refine xT ?_;(first|(refine vT 22 ?_;first|refine yF (zH (yJ _ _ zB zB) rfl rfl rfl rfl rfl) rfl ?_|refine uF (zH (yJ _ _ zB zB) rfl rfl rfl rfl rfl) rfl rfl rfl ?_|refine bJ (zH (yJ _ _ zB zB) rfl rfl rfl rfl rfl) rfl rfl rfl ?_)))|fail))
 generalize nx dj 4=n4
 refine jS (st':=⟨[(0,.ptr 1000 0 0),(2,.ptr 2 0 0),(4,.ptr 4 0 0),(8,bA (n4==3)),(69,zD vE ps),(70,iA ps.length),(71,iA 0)],
   [(1000,cG (ad dj)),(2,.box [.s (.slice none 0 0),.s (.slice none 0 0),iA 0]),(4,.box [zD vE ps,.s (.slice none 0 0),iA js])]⟩) [1000,2,4] [0,2,4,8,69,70,71] rfl (by
  have e1:zD vE ps= .sl false (List.take (ps.map vE).length (List.drop 0 (ps.map vE))):=by
   rw[zZv,zYv];rfl
  rw[e1,<-hlp]
  rfl) ?_
 generalize (n4==3)=ex;generalize ad dj=dk;refine vW 4 1 1002 1 rfl rfl rfl rfl rfl ?_
 refine vA (λn st=>∃i:Nat,n+i=ps.length/\st=⟨[(0,.ptr 1000 0 0),(2,.ptr 2 0 0),(4,.ptr 4 0 0),(8,bA ex),(69,zD vE ps),(70,iA ps.length),(71,iA i)],
   [(1000,cG dk),(2,.box [.s (.slice none 0 0),.s (.slice none 0 0),iA 0]),(4,.box [zD vE ps,.ref 1002 0 ((gL ps ex i).map iA).length,iA js]),(1002,.arr 1 ((gL ps ex i).map iA) true)]⟩)
  ps.length [1000,2,4,1002] [0,2,4,8,69,70,71] rfl ⟨0,rfl,rfl⟩ ?_
 clear n;rintro n st ⟨i,hi,rfl⟩;by_cases hlt:i<ps.length
 ·have hy:=yP vE ps i zB zB;rw[show((i:Int)).toNat=i from rfl]at hy;have ht:(gL ps ex (i+1)).map iA=(gL ps ex i).map iA++[iA (YU ps ex i ps.length)]:=by unfold gL;rw[yBa];simp
  have hrl:(gL ps ex i).length=i:=by simp[gL]
  obtain⟨p,hp⟩:∃p,ps.getD i default=p:=⟨_,rfl⟩;rw[hp]at hy;obtain⟨rows,hrows⟩:∃r,gL ps ex i=r:=⟨_,rfl⟩;rw[hrows]at ht hrl⊢
  (repeat' (first|refine ZY ?_|refine xR (λhc=>?_) (λhc=>?_)|fail))
  refine vA (λn st=>∃k:Nat,n+k=ps.length/\st=⟨[(0,.ptr 1000 0 0),(2,.ptr 2 0 0),(4,.ptr 4 0 0),(8,bA ex),(9,iA i),(10,.ptr 10 0 0),(11,iA (YU ps ex i k)),(69,zD vE ps),(70,iA ps.length),(71,iA i),(77,zD vE ps),(78,iA ps.length),(79,iA k)],
    [(1000,cG dk),(2,.box [.s (.slice none 0 0),.s (.slice none 0 0),iA 0]),(4,.box [zD vE ps,.ref 1002 0 (rows.map iA).length,iA js]),(10,.box [iA p.ring,iA p.group,iA p.ming,iA p.maxg,iA p.yel,iA p.red,iA p.walk,iA p.clear]),(1002,.arr 1 (rows.map iA) true)]⟩)
   ps.length [1000,2,4,10,1002] [0,2,4,8,9,10,11,69,70,71,77,78,79] rfl ⟨0,rfl,by rw[<-hlp];rfl⟩ ?_
  rintro n2 st ⟨k,hk,rfl⟩;by_cases hlt2:k<ps.length
  ·have hy2:=yP vE ps k zB zB;rw[show((k:Int)).toNat=k from rfl]at hy2
   have hn:YU ps ex i (k+1)=if cnd ps ex i k=true then YU ps ex i k+2 ^ k else YU ps ex i k:=rfl
   have hc:cnd ps ex i k=(i != k&&(p.ring==(ps.getD k default).ring||p.group != (ps.getD k default).group||ex&&((i:Int)+k).tmod 2==1)):=by rw[<-hp];rfl
   obtain⟨hw,hw2⟩:=zX7 k zB;obtain⟨hr0,hr1⟩:=QJ ps ex i k;have hr2:0<=(2:Int) ^ k:=by omega
   rw[show(2:Int) ^ k=p2 k from rfl]at hn hr1 hr2 hw2;clear hw;generalize ps.getD k default=q at *;by_cases h0:i=k
   ·rw[zYo (by rw[hc];simp[h0])]at hn;clear hc;subst h0
    (repeat' (first|refine ZY ?_|refine xR (λhc=>?_) (λhc=>?_)|fail))
    exact⟨n2-1,zB,i+1,zB,by rw[hn];rfl⟩
   by_cases h1:p.ring=q.ring
   ·rw[zYp (by rw[hc];simp[h0,h1])]at hn;clear hc
    (repeat' (first|refine ZY ?_|refine xR (λhc=>?_) (λhc=>?_)|fail))
    exact⟨n2-1,zB,k+1,zB,by rw[hn];rfl⟩
   by_cases h2:p.group=q.group
   ·cases ex with
    |false=>
     rw[zYo (by rw[hc];simp[h0,h1,h2])]at hn;clear hc
     (repeat' (first|refine ZY ?_|refine xR (λhc=>?_) (λhc=>?_)|fail))
     exact⟨n2-1,zB,k+1,zB,by rw[hn];rfl⟩
    | true=>
     by_cases h3:((i:Int)+k).tmod 2=1
     ·rw[zYp (by rw[hc];simp[h0,h1,h2,h3])]at hn;clear hc
      (repeat' (first|refine ZY ?_|refine xR (λhc=>?_) (λhc=>?_)|fail))
      exact⟨n2-1,zB,k+1,zB,by rw[hn];rfl⟩
     ·rw[zYo (by rw[hc];simp[h0,h1,h2,h3])]at hn;clear hc
      (repeat' (first|refine ZY ?_|refine xR (λhc=>?_) (λhc=>?_)|fail))
      exact⟨n2-1,zB,k+1,zB,by rw[hn];rfl⟩
   ·rw[zYp (by rw[hc];simp[h0,h1,h2])]at hn;clear hc
    (repeat' (first|refine ZY ?_|refine xR (λhc=>?_) (λhc=>?_)|fail))
    exact⟨n2-1,zB,k+1,zB,by rw[hn];rfl⟩
  ·obtain rfl:k=ps.length:=by omega
   have hr:=QJ ps ex i ps.length
   (repeat' (first|refine ZY ?_|refine xR (λhc=>?_) (λhc=>?_)|fail))
   exact⟨n-1,zB,i+1,zB,by rw[ht];rfl⟩
 obtain rfl:i=ps.length:=by omega
 (repeat' (first|refine ZY ?_|refine xR (λhc=>?_) (λhc=>?_)|fail))
 exact zJ [1000] rfl rfl (zZl (λx=>AV.agg [zD vE ps,AV.sl false x,iA js]) zYv) rfl
def ad4 (d:Dk):Dk:=ad (ad (ad (ad d)))
def NY (d:Dk):Nat->List Jn×Dk
 |0=>([],d)
 |i+1=>((NY d i).1++[jnF (NY d i).2],jnD (NY d i).2)
def TC (d:Dk) (rights:Int):Nat->List Ag×Dk
 |0=>([],d)
 |i+1=>((TC d rights i).1++[agF (TC d rights i).2 i rights],ad (ad7 (TC d rights i).2))
theorem QK (d:Dk):∀i,(NY d i).1.length=i
 |0=>rfl
 |i+1=>by simp[NY,QK d i]
theorem cC (d:Dk) (rights:Int):∀i,(TC d rights i).1.length=i
 |0=>rfl
 |i+1=>by simp[TC,cC d rights i]
theorem zTq (d:Dk) (rights:Int) (i:Nat):(TC d rights (i+1)).2=ad (ad7 (TC d rights i).2):=by simp only[TC]
theorem zI2 (d:Dk) (rights:Int) (i:Nat):(TC d rights (i+1)).1=(TC d rights i).1++[agF (TC d rights i).2 i rights]:=by simp only[TC]
def cfN (d:Dk):Nat:=(1+nx (ad4 d) 2).toNat
def cfJ (d:Dk):List Jn×Dk:=NY (ad (ad4 d)) (cfN d)
def cfM (d:Dk):Nat:=(1+nx (cfJ d).2 3).toNat
def cfG (d:Dk) (rights:Int):List Ag×Dk:=TC (ad (cfJ d).2) rights (cfM d)
def RC (d:Dk) (rights:Int):Cf:=⟨(cfJ d).1,(cfG d rights).1,1+nx d (4-1+1),nx (ad d) 4,1+nx (ad (ad d)) (3-1+1),nx (ad (ad (ad d))) 5⟩
def cfD (d:Dk) (rights:Int):Dk:=(cfG d rights).2
theorem DI (d:Dk) (rights:Int):zO 12 [.ptr 1000 0 0,iA rights] [(1000,cG d)] (wJ (RC d rights)) [(1000,cG (cfD d rights))]:=by
 have hn:=yD (ad4 d) 2 zB;have hm:=yD (cfJ d).2 3 zB;have en:1+nx (ad4 d) 2=(cfN d:Int):=(yD1 zB).symm;have em:1+nx (cfJ d).2 3=(cfM d:Int):=(yD1 zB).symm;have ej:cfJ d=NY (ad (ad4 d)) (cfN d):=rfl;have eg:cfG d rights=TC (ad (cfJ d).2) rights (cfM d):=rfl;have ef:RC d rights=⟨(cfJ d).1,(cfG d rights).1,1+nx d (4-1+1),nx (ad d) 4,1+nx (ad (ad d)) (3-1+1),nx (ad (ad (ad d))) 5⟩:=rfl;have ed:cfD d rights=(cfG d rights).2:=rfl;rw[ef,ed];unfold ad4 at *;generalize cfJ d=jj at *;generalize cfG d rights=gg at *;generalize cfN d=N at *;generalize cfM d=M at *;have jc:=λi=>zAz (NY (ad (ad (ad (ad (ad d))))) i).2
 refine eM call12 λF hF=>?_
 (repeat' (first|refine ZY ?_|refine xR (λhc=>?_) (λhc=>?_)|(refine zE ?_;refine xT ?_;(first|(refine vT 37 ?_;first|refine yF (zH (kX _ _ _ zB zB zB) rfl rfl rfl rfl rfl) rfl ?_|refine uF (zH (kX _ _ _ zB zB zB) rfl rfl rfl rfl rfl) rfl rfl rfl ?_|refine bJ (zH (kX _ _ _ zB zB zB) rfl rfl rfl rfl rfl) rfl rfl rfl ?_)|(refine vT 22 ?_;first|refine yF (zH (yJ _ _ zB zB) rfl rfl rfl rfl rfl) rfl ?_|refine uF (zH (yJ _ _ zB zB) rfl rfl rfl rfl rfl) rfl rfl rfl ?_|refine bJ (zH (yJ _ _ zB zB) rfl rfl rfl rfl rfl) rfl rfl rfl ?_)))|fail))
 generalize nx d (4-1+1)=c1 at *;generalize nx (ad d) 4=c2 at *;generalize nx (ad (ad d)) (3-1+1)=c3 at *;generalize nx (ad (ad (ad d))) 5=c4 at *;generalize nx (ad (ad (ad (ad d)))) 2=n0 at *;generalize ad (ad (ad (ad (ad d))))=d5 at *;refine vW 5 0 1001 3 rfl rfl rfl rfl rfl ?_
 refine vA (λn st=>∃i:Nat,n+i=N/\st=⟨[(0,.ptr 1000 0 0),(1,iA rights),(4,.ptr 4 0 0),(5,.ptr 5 0 0),(6,iA (1+n0-i))],
   [(1000,cG (NY d5 i).2),(4,.box [.s (.slice none 0 0),.s (.slice none 0 0),iA 0,iA 0,iA 0,iA 0]),(5,.box [.ref 1001 0 ((NY d5 i).1.map wC).length,.s (.slice none 0 0),iA (1+c1),iA c2,iA (1+c3),iA c4]),(1001,.arr 3 ((NY d5 i).1.map wC) true)]⟩)
  N [1000,4,5,1001] [0,1,4,5,6] rfl ⟨0,rfl,by rw[show 1+n0-(0:Nat)=1+n0 by omega];rfl⟩ ?_
 rintro n st ⟨i,hi,rfl⟩;by_cases hlt:i<N
 ·have hm2:(NY d5 (i+1)).1.map wC=(NY d5 i).1.map wC++[wC (jnF (NY d5 i).2)]:=zYz;have hd2:(NY d5 (i+1)).2=jnD (NY d5 i).2:=rfl;have c:=jc i;have hle:=QK d5 i;generalize hq':NY d5 (i+1)=q' at hm2 hd2;generalize NY d5 i=q at *;obtain⟨ql,qd⟩:=q;dsimp only at hm2 hd2 hle c⊢;generalize jnF qd=jf at *;generalize jnD qd=jd at *;refine zW c ?_;exact⟨n-1,zB,i+1,zB,by rw[hq',hm2,hd2,show 1+n0-((i+1:Nat):Int)=1+n0-i-1 by omega];rfl⟩
 obtain rfl:i=N:=by omega
 have hjl:jj.1.length=i:=by rw[ej];exact QK _ _
 rw[<-ej];clear ej jc ef ed;obtain⟨js,dj⟩:=jj;dsimp only at *;have hlp:(js.map wC).length=js.length:=by simp
 have hal:=cC (ad dj) rights M;have ac:=λk (hk:k<M)=>zHa (TC (ad dj) rights k).2 k rights zB zB
 rw[<-eg]at hal
 (repeat' (first|refine ZY ?_|refine xR (λhc=>?_) (λhc=>?_)|(refine zE ?_;refine xT ?_;(first|(refine vT 22 ?_;first|refine yF (zH (yJ _ _ zB zB) rfl rfl rfl rfl rfl) rfl ?_|refine uF (zH (yJ _ _ zB zB) rfl rfl rfl rfl rfl) rfl rfl rfl ?_|refine bJ (zH (yJ _ _ zB zB) rfl rfl rfl rfl rfl) rfl rfl rfl ?_)))|fail))
 generalize nx dj 3=n3 at *;generalize ad dj=dk at*
 refine jS (st':=⟨[(0,.ptr 1000 0 0),(1,iA rights),(4,.ptr 4 0 0),(5,.ptr 5 0 0),(33,iA (1+n3)),(34,iA 0)],
   [(1000,cG dk),(4,.box [.s (.slice none 0 0),.s (.slice none 0 0),iA 0,iA 0,iA 0,iA 0]),(5,.box [zD wC js,.s (.slice none 0 0),iA (1+c1),iA c2,iA (1+c3),iA c4])]⟩) [1000,4,5] [0,1,4,5,33,34] rfl (by
  have e1:zD wC js= .sl false (List.take (js.map wC).length (List.drop 0 (js.map wC))):=by
   rw[zZv,zYv];rfl
  rw[e1]
  rfl) ?_
 refine vW 5 1 1002 8 rfl rfl rfl rfl rfl ?_
 refine vA (λn st=>∃k:Nat,n+k=M/\st=⟨[(0,.ptr 1000 0 0),(1,iA rights),(4,.ptr 4 0 0),(5,.ptr 5 0 0),(33,iA (1+n3)),(34,iA k)],
   [(1000,cG (TC dk rights k).2),(4,.box [.s (.slice none 0 0),.s (.slice none 0 0),iA 0,iA 0,iA 0,iA 0]),(5,.box [zD wC js,.ref 1002 0 ((TC dk rights k).1.map wN).length,iA (1+c1),iA c2,iA (1+c3),iA c4]),(1002,.arr 8 ((TC dk rights k).1.map wN) true)]⟩)
  M [1000,4,5,1002] [0,1,4,5,33,34] rfl ⟨0,rfl,rfl⟩ ?_
 clear n hi hlt;rintro n st ⟨k,hk,rfl⟩;by_cases hlt:k<M
 ·have hm2:(TC dk rights (k+1)).1.map wN=(TC dk rights k).1.map wN++[wN (agF (TC dk rights k).2 k rights)]:=by rw[zI2];exact zYz
  have hd2:(TC dk rights (k+1)).2=ad (ad7 (TC dk rights k).2):=zTq dk rights k;have c:=ac k hlt;have hle:=cC dk rights k;clear ac;generalize hq':TC dk rights (k+1)=q' at hm2 hd2;generalize TC dk rights k=q at *;obtain⟨ql,qd⟩:=q;dsimp only at hm2 hd2 hle c⊢;generalize agF qd k rights=jf at *;generalize ad (ad7 qd)=jd at *;refine zW c ?_;exact⟨n-1,zB,k+1,zB,by rw[hq',hm2,hd2];rfl⟩
 obtain rfl:k=M:=by omega
 rw[<-eg];clear eg ac;refine WW ?_;exact zJ [1000] rfl rfl (zZl (λx=>AV.agg [zD wC js,AV.sl false x,iA (1+c1),iA c2,iA (1+c3),iA c4]) zYv) rfl
end Av
end Go.Proofs.YtmamjhmoegjapaaGreat
