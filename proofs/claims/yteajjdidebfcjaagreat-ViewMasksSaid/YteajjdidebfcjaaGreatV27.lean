/- Part 27. -/
import Derived.Test.YteajjdidebfcjaaGreatV26
namespace Go.Proofs.YteajjdidebfcjaaGreat
namespace Av
open Tryz
set_option linter.all false
set_option maxRecDepth 4000
set_option maxHeartbeats 8000000
def zBn {c:Int} (h:0<=c):GK c=[c/16777216 % 256,c/65536 % 256,c/256 % 256,c % 256]:=by
 unfold GK;simp only[show List.range 4=[0,1,2,3]from Z,zZj,yAl,zF5];rw[show c.fdiv (2 ^ (min (8*(3-((0:Nat):Int))).toNat IntKind.u32.bits))=c.fdiv 16777216 from Z,show c.fdiv (2 ^ (min (8*(3-((1:Nat):Int))).toNat IntKind.u32.bits))=c.fdiv 65536 from Z,show c.fdiv (2 ^ (min (8*(3-((2:Nat):Int))).toNat IntKind.u32.bits))=c.fdiv 256 from Z,show c.fdiv (2 ^ (min (8*(3-((3:Nat):Int))).toNat IntKind.u32.bits))=c.fdiv 1 from Z];rw[zZ1 _ zB,zZ1 _ zB,zZ1 _ zB,zZ1 _ zB,Int.ediv_one]
def BU {s:Int} (h:0<=s):fr4 s=GK s:=by
 rw[zBn h];unfold fr4;simp only[zF5];rw[show s.fdiv (2 ^ (min (24:Int).toNat IntKind.u32.bits))=s.fdiv 16777216 from Z,show s.fdiv (2 ^ (min (16:Int).toNat IntKind.u32.bits))=s.fdiv 65536 from Z,show s.fdiv (2 ^ (min (8:Int).toNat IntKind.u32.bits))=s.fdiv 256 from Z];rw[zZ1 _ zB,zZ1 _ zB,zZ1 _ zB]
def zMb {a b c d:Int} (ha:0<=a/\a<256) (hb:0<=b/\b<256) (hc:0<=c/\c<256) (hd:0<=d/\d<256):GK (XM [a,b,c,d])=[a,b,c,d]:=by
 rw[zU4 ha hb hc hd,zBn zB];have e1:(((a*256+b)*256+c)*256+d)/16777216 % 256=a:=by omega
 have e2:(((a*256+b)*256+c)*256+d)/65536 % 256=b:=by omega
 have e3:(((a*256+b)*256+c)*256+d)/256 % 256=c:=by omega
 have e4:(((a*256+b)*256+c)*256+d) % 256=d:=by omega
 rw[e1,e2,e3,e4]
def zU2 {r:List Int} {q:It×Nat} (hb:BY r) (h:ZG r=some q) (hc:q.1.code=0):r.take q.2=YB q.1.kind q.1.pay/\(1<=q.1.kind/\q.1.kind<=22)/\BY q.1.pay/\q.1.pay.length<=200/\q.1.pay.length+10=q.2:=by
 obtain⟨i0,i1,iN,ic,i2,i3,i4⟩:=zBu h hc;obtain⟨g1,g2,g3,g4⟩:=YT h hc;obtain⟨eq,hn⟩:=PQ h hc;rw[eq]at g1 g3 g4⊢;dsimp only at *;refine⟨?_,⟨i3,i4⟩,by rw[g3];exact λx hx=>hb x (zY1 (zZl hx)),g4,g1⟩;obtain⟨_,z4⟩:=WB r hb 4 zB;obtain⟨_,z5⟩:=WB r hb 5 zB;obtain⟨_,z6⟩:=WB r hb (jS r+6) zB;obtain⟨_,z7⟩:=WB r hb (jS r+7) zB;obtain⟨_,z8⟩:=WB r hb (jS r+8) zB;obtain⟨_,z9⟩:=WB r hb (jS r+9) zB;have hp:jS r=(r.getD 4 0).toNat*256+(r.getD 5 0).toNat:=rfl;have e4:r.getD 4 0=0:=by omega
 have e5:r.getD 5 0=(jS r:Int):=by omega
 have t0:r.take 2=[90,165]:=by
  have:=GY r 0 zB;rw[zYq]at this;rw[show r.take 2=(r.take 4).take 2 by rw[yD0];rfl,this,i0,i1];rfl
 have t2:=GY r 2 zB;rw[show(2+1:Nat)=3 from Z,show(2+2:Nat)=4 from Z,show(2+3:Nat)=5 from Z,i2,e4,e5]at t2;have t6:=GY r (jS r+6) zB
 have hd:(r.drop 2).take (jS r+4)=aI (r.getD 3 0) (jS r)++(r.drop 6).take (jS r):=by
  rw[show jS r+4=4+jS r by omega,yDl,t2,yCc];rfl
 have hl:((r.drop 6).take (jS r)).length=jS r:=by omega
 rw[show jS r+10=2+((jS r+4)+4) by omega,yDl,t0,yDl,hd,yCc,show 2+(jS r+4)=jS r+6 by omega,t6];unfold YB;rw[hl,<-hd,ic,t6,zMb z6 z7 z8 z9,hd];simp
def KQ (k:Int) (p:List Int) (k0:0<=k) (k1:k<=255) (hb:BY p) (hp:p.length<=200):zO 29 [iA k,zD yA p] [] (.tup [.ref 1031 0 ((YB k p).map yA).length,iA 0]) [(1031,.arr 1 ((YB k p).map yA) true)]:=by
 obtain⟨q,e,_,_,c⟩:=KY k p k0 k1 hb hp;rw[BU (ID _).1]at e;rw[show YB k p=q from e.symm];exact c
def zFs:zO 106 [iA 22] [] (.agg [iA 1,iA 0,iA 0,iA 0,iA 0]) []:=by
 refine eM call106 λF hF=>?_
 refine WW ?_;exact zJ
def zRf (k:Int) (h0:1<=k/\k<=22) (p:List Int) (hb:BY p) (hn:p.length<=100000):∃r:Option Ms,(∀m,r=some m->m.data.length<=100000)/\(k=17∨k=21->r=(GW p).map λq=>⟨k,[],q.1,q.2⟩)/\zO 71 [iA k,zD yA p] [] (dsT r) []:=by
 by_cases h12:k<=12
 ·have c:=KL k h0.1 h12 p hb hn
  cases hd:PL (qC k) (wY k) p with
  |none=>
   rw[hd]at c;exact⟨none,λm h=>(by cases h),λh=>by omega,c⟩
  |some a=>
   rw[hd]at c;exact⟨some ⟨k,p.take 10,a,[]⟩,λm h=>by cases h;simp,λh=>by omega,c⟩
 have X:∀(fx gr:Nat) (hi sd:Int),zO 106 [iA k] [] (.agg [iA (fx:Int),iA (gr:Int),iA 0,iA hi,iA sd]) []->fx<=4->(gr=0∨gr=2∨gr=3)->(0<=hi/\hi<=16)->(-1<=sd/\sd<=200)->(k=17∨k=21->sd= -1/\gr=0/\fx=1)->∃r:Option Ms,(∀m,r=some m->m.data.length<=100000)/\(k=17∨k=21->r=(GW p).map λq=>⟨k,[],q.1,q.2⟩)/\zO 71 [iA k,zD yA p] [] (dsT r) []:=λfx gr hi sd c h1 h2 h3 h4 h5=>by
  obtain⟨r,r1,r2,r3⟩:=zRi k zB fx gr hi sd c h1 h2 h3 h4 p hb hn;exact⟨r,r1,λh=>r2 (h5 h).1 (h5 h).2.1 (h5 h).2.2,r3⟩
 have hk:k=13∨k=14∨k=15∨k=16∨k=17∨k=18∨k=19∨k=20∨k=21∨k=22:=by omega
 rcases hk with rfl|rfl|rfl|rfl|rfl|rfl|rfl|rfl|rfl|rfl
 ·exact X 2 0 0 0 (QE 13 zV) zV zV zV zV zV
 ·exact X 2 0 0 0 (QE 14 zV) zV zV zV zV zV
 ·exact X 2 0 0 0 (QE 15 zV) zV zV zV zV zV
 ·exact X 1 0 0 10 (QE 16 zV) zV zV zV zV zV
 ·exact X 1 0 0 (-1) (QE 17 zV) zV zV zV zV zV
 ·exact X 1 3 16 0 (QE 18 zV) zV zV zV zV zV
 ·exact X 0 2 4 0 (QE 19 zV) zV zV zV zV zV
 ·exact X 4 0 0 0 (QE 20 zV) zV zV zV zV zV
 ·exact X 1 0 0 (-1) (QE 21 zV) zV zV zV zV zV
 ·exact X 1 0 0 0 zFs zV zV zV zV zV
def zQc {b:List Int} (hb:BY b) {p:Pc} (h:p∈uP b.length b 0):AB b p=YB p.it.kind p.it.pay/\(1<=p.it.kind/\p.it.kind<=22)/\BY p.it.pay/\p.it.pay.length<=200:=by
 obtain⟨i,hi,rfl⟩:=yBy.1 h;obtain⟨q,p,p1,p2,p3,p4,p5,p6,_⟩:=zFy hi;rw[zYk hi]at p1;have p1:=yAh p1;rw[p1];obtain⟨f1,f2,f3,f4,_⟩:=zU2 (zFz hb i).1 p2 p3;rw[p4];refine⟨?_,f2,f3,f4⟩;unfold AB;rw[p5,p6,<-f1];rfl
theorem zBo (b:List Int):∀i,i<=(uP b.length b 0).length->(((uP b.length b 0).take i).map (AB b)).flatten=b.take (whE ((uP b.length b 0).take i))
 |0,_=>rfl
 |i+1,hi=>by
  obtain⟨q,p,p1,p2,p3,p4,p5,p6,_⟩:=zFy (show i<(uP b.length b 0).length by omega);rw[PS p1,yAj,p1,zYd,yCr,zBo b i zB,p6,yDl]
  show _++List.flatten [AB b p]=_
  rw[List.flatten_singleton];unfold AB;rw[p6]
def VX (b:List Int) (l:List Pc):List Int:=(l.map λp=>AA (YB p.it.kind p.it.pay) p.it).flatten
def zRg {b:List Int} (hb:BY b) (hw:whF b=true):BX b=VX b (uP b.length b 0):=by
 have hg:∀q∈(uP b.length b 0).map (λp=>(p.it,AB b p)),zRq q:=λq hq=>by
  obtain⟨p,hp,rfl⟩:=zZn.1 hq;exact(FB (b:=b) b.length 0 p hp).1
 have e:(((uP b.length b 0).map (λp=>(p.it,AB b p))).map (·.2)).flatten=b:=by
  rw[yCl];have:=zBo b (uP b.length b 0).length (zX7 _);rw[zX6]at this;refine this.trans ?_;unfold whF at hw;rw[yDj]at hw;rw[hw,zX6]
 have h1:=zBt _ b.length hg (by rw[e];exact zX7 _);rw[e]at h1;rw[zRl hb,zX3 hw,h1,yCl];unfold VX
 congr 1
 apply yA3;intro p hp
 show AA (AB b p) p.it=_
 rw[(zQc hb hp).1]
def GR (f:List Int) (o i:Nat):List Int:=f.take o++List.replicate i 0++f.drop (o+i)
def zFt (f:List Int) (o i:Nat) (h:o+i<f.length):GR f o (i+1)=(GR f o i).set (o+i) 0:=by
 have h1:(f.take o++List.replicate i (0:Int)).length=o+i:=by rw[zX4,zYn,zZs];omega
 have h2:f.drop (o+i)=f[o+i]::f.drop (o+i+1):=yAe h;unfold GR;rw[yAy _ _ zB,h1,yAa,h2,yB4,show List.replicate (i+1) (0:Int)=List.replicate i 0++[0]from yDb];simp[yCp]
def zBp (f:List Int) (o i:Nat) (h:o+i<=f.length):(GR f o i).length=f.length:=by
 unfold GR;rw[zX4,zX4,zYn,zZs,zYv];omega
def zDw (b:List Int) (l:List Pc) (p:Pc):VX b (l++[p])=VX b l++AA (YB p.it.kind p.it.pay) p.it:=by simp[VX]
theorem GT {b:List Int}:∀(l:List Pc),(∀p∈l,BY p.it.pay/\p.it.pay.length<=200)->(VX b l).length<=210*l.length
 | [],_=>zX7 _
 | p::l,h=>by
  have ih:=GT (b:=b) l λq hq=>h q (by simp[hq])
  obtain⟨h1,h2⟩:=h p zW;have e:VX b (p::l)=AA (YB p.it.kind p.it.pay) p.it++VX b l:=by simp[VX]
  have hz:(AA (YB p.it.kind p.it.pay) p.it).length=(YB p.it.kind p.it.pay).length:=zBr λn hn=>by
   unfold GX at hn;split at hn
   ·rw[zYf]at hn;obtain⟨d,hd,rfl⟩:=hn;have:=QT h1 hd;rw[VZ];omega
   ·cases hn
  rw[e,zX4,hz,VZ,zYh];omega
theorem zDx (b:List Int) (hb:BY b) (hl:b.length<=100000):zO 32 [zD yA b] [] (zD yA (BX b)) []:=by
 have kw:=zF0 b hb hl;have hlb:=zA yA b;unfold whT at kw
 cases hw:whF b with
 |false=>
  rw[hw,zX2 zYp]at kw;have e:BX b=b:=by unfold BX;rw[hw];rfl
  rw[e];clear e hw;refine eM call32 λF hF=>?_
  refine WLo kw ?_;exact zJ
 |true=>
 rw[hw,zX3 Z]at kw;rw[zRg hb hw];have hpc:=λp (h:p∈uP b.length b 0)=>zQc hb h
 have hvl:=KU b.length b 0;clear hw;generalize uP b.length b 0=L at *;have hLm:=zA (λp:Pc=>wO p.it) L;have hml:∀l:List Pc,(∀p∈l,p∈L)->(VX b l).length<=210*l.length:=λl h=>GT l λp hp=>⟨(hpc p (h p hp)).2.2.1,(hpc p (h p hp)).2.2.2⟩
 refine eM call32 λF hF=>?_
 refine zY kw ?_;refine xA 5 1001 1 Z Z Z ?_;refine yT (L) [1001] [] [22,23] [5,24,22,23] Z (λi pre T U=>⟨(5,.ref 1001 0 ((VX b pre).map yA).length)::(24,iA i)::T,(1001,.arr 1 ((VX b pre).map yA) true)::U⟩) ?_;(conv=>whnf);refine⟨by rfl,?_,?_⟩
 ·intro i pre x post hx hi;have hy:=xQ (λp:Pc=>wO p.it) hx hi;have hlt:=yW hx hi;obtain⟨_,⟨k0,k1⟩,hby,hp2⟩:=hpc x (vF hx);have hpl:pre.length<=L.length:=by rw[hx];simp
  have hm:=hml pre λp hp=>by rw[hx];simp[hp]
  have hmm:=zA yA (VX b pre);have ke:=KQ x.it.kind x.it.pay zB zB hby hp2;obtain⟨r,r1,r2,kd⟩:=zRf x.it.kind ⟨k0,k1⟩ x.it.pay hby zB;have hfl:=VZ x.it.kind x.it.pay;have hfm:=zA yA (YB x.it.kind x.it.pay);rw[zDw,zYd]
  have hze:AA (YB x.it.kind x.it.pay) x.it=match GX x.it with|none=>YB x.it.kind x.it.pay|some n=>(YB x.it.kind x.it.pay).take ((YB x.it.kind x.it.pay).length-4-n)++List.replicate (n+4) 0:=rfl
  have hmd:GX x.it=if x.it.kind=17∨x.it.kind=21 then(GW x.it.pay).map (λq=>q.2.length)else none:=rfl
  have hdl:=λq (h:GW x.it.pay=some q)=>QT hby h
  clear hx hml hpc kw;generalize VX b pre=O at *;generalize O.map yA=Y at *;generalize GX x.it=md at *;generalize AA (YB x.it.kind x.it.pay) x.it=ze at *;generalize hfF:YB x.it.kind x.it.pay=f at *;obtain⟨fr,pk,⟨cd,kd9,py⟩⟩:=x;dsimp only at *;rw[show wO ⟨cd,kd9,py⟩= .agg [iA cd,iA kd9,zD yA py]from Z]at hy;have hno:md=none->ze=f:=λh=>by rw[h]at hze;exact hze
  by_cases hk:kd9=17∨kd9=21
  case neg=>
   rw[zX2 hk]at hmd;rw[hno hmd];clear hno hze hmd r2
   cases r with
   |none=>
    have kd:zO 71 [iA kd9,zD yA py] [] (.tup [.agg [iA 0,.sl false [],.sl false [],.sl false []],iA 6]) []:=kd
    (have zc1:=ke;have zc2:=kd;(repeat' (first|refine uJ ?_|apply xL|apply wB|intro hc|(refine zE ?_;first|(refine yD ?_;refine wJ [1001] [5,22,23,24,72,73] Z ?_;(conv=>whnf);(try simp only[zYq,zX6]);refine uF tok Z Z Z Z Z Z Z Z Z Z Z (zN _ _ (λ_=>rfl)) zB Z ?_))|fail))<;>clear zc1 zc2)
    rfl
   |some m=>
    have kd:zO 71 [iA kd9,zD yA py] [] (.tup [.agg [iA m.kind,zD yA m.tok,zD iA m.args,zD yA m.data],iA 0]) []:=kd
    (have zc1:=ke;have zc2:=kd;(repeat' (first|refine uJ ?_|apply xL|apply wB|intro hc|(refine zE ?_;first|(refine yD ?_;refine wJ [1001] [5,22,23,24,72,73] Z ?_;(conv=>whnf);(try simp only[zYq,zX6]);refine uF tok Z Z Z Z Z Z Z Z Z Z Z (zN _ _ (λ_=>rfl)) zB Z ?_))|fail))<;>clear zc1 zc2)
    rfl
  have r2:=r2 hk;rw[zX3 hk]at hmd
  cases hdt:GW py with
  |none=>
   rw[hdt]at r2 hmd;rw[hno hmd];subst r2;clear hno hze hmd;have kd:zO 71 [iA kd9,zD yA py] [] (.tup [.agg [iA 0,.sl false [],.sl false [],.sl false []],iA 6]) []:=kd
   (have zc1:=ke;have zc2:=kd;(repeat' (first|refine uJ ?_|apply xL|apply wB|intro hc|(refine zE ?_;first|(refine yD ?_;refine wJ [1001] [5,22,23,24,72,73] Z ?_;(conv=>whnf);(try simp only[zYq,zX6]);refine uF tok Z Z Z Z Z Z Z Z Z Z Z (zN _ _ (λ_=>rfl)) zB Z ?_))|fail))<;>clear zc1 zc2)
   rfl
  | some q=>
   obtain⟨qa,qd⟩:=q;have hdl:=hdl _ hdt;rw[hdt]at r2 hmd;subst r2;have hmd:md=some qd.length:=hmd;rw[hmd]at hze;have hze:ze=f.take (f.length-4-qd.length)++List.replicate (qd.length+4) 0:=hze;have kd:zO 71 [iA kd9,zD yA py] [] (.tup [.agg [iA kd9,zD yA [],zD iA qa,zD yA qd],iA 0]) []:=kd;have hqm:=zA yA qd;dsimp only at hdl;clear hno hmd hdt r1;obtain⟨o,ho⟩:∃o:Nat,f.length=o+(qd.length+4):=⟨f.length-(qd.length+4),zB⟩;rw[show f.length-4-qd.length=o by omega]at hze;have hz0:GR f o 0=f:=by unfold GR;simp
   have hzN:GR f o (qd.length+4)=ze:=by rw[hze];unfold GR;rw[yB2 zB,zY4]
   rcases hk with rfl|rfl
   all_goals
    (have zc1:=ke;have zc2:=kd;(repeat' (first|refine uJ ?_|apply xL|apply wB|intro hc|(refine zE ?_;first|refine SM ?_)|fail))<;>clear zc1 zc2)
    refine uS [1031,1001] [5,8,12,22,23,24] Z ?_
    (conv=>whnf)
    refine RX 1031 [8] Z Z Z Z Z ?_;refine zS ((qd.length+4)) [1031,1001] [1001] [5,8,22,23,24] [12,5,8,22,23,24] Z (λi T U=>⟨(12,iA (((f.map yA).length:Int)-4-((qd.map yA).length:Int)+(i:Int)))::T,(1031,.arr 1 ((GR f o i).map yA) false)::U⟩) ?_;(conv=>whnf);refine⟨by(rw[hz0,show((0:Nat):Int)=0 from Z,Int.add_zero];rfl),?_,?_⟩
    ·intro j hj;have hzl:=zBp f o j zB;have hzm:=zA yA (GR f o j)
     have e1:(GR f o (j+1)).map yA=((GR f o j).map yA).set (((f.map yA).length:Int)-4-((qd.map yA).length:Int)+(j:Int)).toNat (yA 0):=by
      rw[zFt f o j zB,zZ8,show(((f.map yA).length:Int)-4-((qd.map yA).length:Int)+(j:Int)).toNat=o+j by omega]
     have hyX:((GR f o j).map yA)[(((f.map yA).length:Int)-4-((qd.map yA).length:Int)+(j:Int)).toNat]? =some (yA ((GR f o j).getD (o+j) default)):=by
      rw[show(((f.map yA).length:Int)-4-((qd.map yA).length:Int)+(j:Int)).toNat=o+j by omega];exact zM yA (GR f o j) (o+j) zB
     rw[e1,show((j+1:Nat):Int)=(j:Int)+1 from Z,<-Int.add_assoc];clear e1 hz0 hzN ke kd;generalize (GR f o j).map yA=X at *;refine WW ?_;rfl
    ·have hzl:=zBp f o (qd.length+4) zB;rw[hzN]at hzl⊢;have hzm:=zA yA ze;clear hz0 hzN ke kd hze;have e1:(f.map yA).length=(ze.map yA).length:=by omega
     rw[e1]
     (repeat' (first|refine uJ ?_|apply xL|apply wB|intro hc|(refine zE ?_;first|(refine yD ?_;refine wJ [1001] [5,22,23,24,72,73] Z ?_;(conv=>whnf);(try simp only[zYq,zX6]);refine uF tok Z Z Z Z Z Z Z Z Z Z Z (zN _ _ (λ_=>rfl)) zB Z ?_))|fail))
     rfl
 ·(refine WW ?_)
  exact zI [] Z Z (zY3 (AV.sl false) zX6) Z
def YS (k:Int) (fx:Nat) (sd:Int) (hk:13<=k/\k<=22) (c1:zO 106 [iA k] [] (.agg [iA (fx:Int),iA 0,iA 0,iA 0,iA sd]) []) (hf:fx<=2) (hs: -1<=sd/\sd<=200) (ar da:List Int) (hn:JU ar) (hl:ar.length=fx) (hb:BY da) (hd:da.length<=20):
  ∃(q:List Int) (e:Int),BY q/\q.length<=50/\zO 28 [yF ⟨k,[],ar,da⟩] [] (.tup [zD yA q,iA e]) []:=by
 have c1':zO 106 [iA k] [] (.agg [iA (fx:Int),iA ((0:Nat):Int),iA 0,iA 0,iA sd]) []:=c1;have v2:=zFw k fx 0 0 0 sd c1' zB ⟨k,[],ar,da⟩ 0 Z zW (by dsimp only;omega) hn (by dsimp only;omega) (λh=>absurd Z h) zB;obtain⟨b,_,v1⟩:=GV k hk fx 0 0 sd c1' zB (.inl Z) zB hs ar da 0 hn zB (.inr Z) zB v2
 have e2:cP fx 0 0 ⟨k,[],ar,da⟩=(ar.map gW).flatten++da:=by
  unfold cP;rw[zDi];simp
 have hfl:=TR ar;have hpl:(cP fx 0 0 ⟨k,[],ar,da⟩).length<=40:=by rw[e2,zX4];omega
 have hpb:BY (cP fx 0 0 ⟨k,[],ar,da⟩):=by
  rw[e2];intro x hx
  rcases zYy.1 hx with hx|hx
  ·obtain⟨y,hy,hxy⟩:=yBi.1 hx;obtain⟨z,hz,rfl⟩:=zZn.1 hy;exact JT (hn z hz).1 (hn z hz).2 x hxy
  ·exact hb x hx
 rw[show((0:Nat):Int)=0 from Z]at v2;generalize cP fx 0 0 ⟨k,[],ar,da⟩=pl at *;have c2:=KQ k pl zB zB hpb zB;have hfr:=VZ k pl
 have hbf:BY (YB k pl):=by
  obtain⟨q,e,hq,_,_⟩:=KY k pl zB zB hpb zB;rw[BU (ID _).1]at e;rw[show YB k pl=q from e.symm];exact hq
 clear e2 c1 c1';unfold yF at *;dsimp only at*
 cases b with
 | false=>
  refine⟨[],6,jP,by simp,?_⟩
  have k1:zO 64 [.agg [iA k,zD yA [],zD iA ar,zD yA da]] [] (.tup [.sl false [],iA 6]) []:=by
   refine eM call64 λF hF=>?_
   refine zY v1 ?_;exact zJ
  refine eM call28 λF hF=>?_
  refine zY k1 ?_;exact zJ
 | true=>
  refine⟨YB k pl,0,hbf,zB,?_⟩
  have k1:zO 64 [.agg [iA k,zD yA [],zD iA ar,zD yA da]] [] (.tup [zD yA pl,iA 0]) []:=by
   refine eM call64 λF hF=>?_
   refine yR (wZ v1 v2) ?_;exact zJ
  generalize YB k pl=f at *;refine eM call28 λF hF=>?_
  refine yR (wZ k1 c2) ?_;exact zI [] Z Z (zY3 (λz=>AV.tup [AV.sl false z,iA 0]) zX6) Z
theorem zMc {c:Cf} {d:xI} (hI:qF c d) (now:Int) (n0:0<=now) (n1:now<=1073741824) (hn:d.au.length=1) (ins:List In) (hi:ins=[⟨true,[]⟩]):
  zO 94 [vL c,zK d,zD kX ins,iA now] [] (.tup [zK (dkM (dkU d ins) now),.sl false [.s (.slice none 0 0)],.s (.slice none 0 0),.s (.slice none 0 0)]) []:=by
 have kc:=UL d hI.bd zB;have hal:(d.au.map bA).length=1:=by rw[zX5,hn]
 have hil:ins.length=1:=by rw[hi];rfl
 have hinl:=zA kX ins;have km:=AU (dkU d ins).rq now (zH4 hI ins).v;have cfe:vL c= .agg [.sl false (c.js.map vC),.sl false (c.ags.map vU),iA c.per,iA c.cap,iA c.hold,iA c.lock]:=rfl;rw[cfe];unfold UK zK wI at kc;have e0:=jU (RA ins) d.au;have hkM:(min ((ins.map kX).length:Int) ((d.au.map bA).length:Int)).toNat=1:=by omega
 have htl:((ins.take 1).map kX).length=1:=by rw[zX5,zYn];omega
 have hy0:((ins.take 1).map kX)[0]? =some (.agg [bA true,.sl false []]):=by rw[hi];rfl
 have hg0:ins.getD 0 default=⟨true,[]⟩:=by rw[hi];rfl
 clear hi;refine eM call94 λF hF=>?_
 refine zY kc ?_;rw[hkM,hal];refine zS (1) [1004,4,5,8,28] [4,5,8,28] [2,3,4,5,8,12,13,14,39] [40,9,10,2,3,4,5,8,12,13,14,39] Z (λi T U=>⟨(40,iA i)::(9,.s (.slice none 0 0))::(10,.s (.slice none 0 0))::T,(1004,.arr 1 ((YY (RA ins) d.au i).map bA) false)::U⟩) ?_;(conv=>whnf);refine⟨by(rw[e0];rfl),?_,?_⟩
 ·intro i hi;have hi0:i=0:=by omega
  subst hi0;have hya:((YY (RA ins) d.au 0).map bA)[0]? =some (bA (d.au.getD 0 default)):=by rw[zX8,qD,zX3 zB,zX2 (yB7 0)];rfl
  have hxl:((YY (RA ins) d.au 0).map bA).length=1:=by rw[zX5,vE,hn]
  rw[qP bA (RA ins) d.au 0 zB];have hsame:=fV hya;clear kc km;generalize (YY (RA ins) d.au 0).map bA=xs at *;generalize d.au.getD 0 default=b9 at *;unfold RA;rw[zX3 ⟨zB,by rw[hg0]⟩,hsame];refine WW ?_;rfl
 ·(refine WW ?_)
  refine uS [4,5,8,28] [2,3,4,5,8,9,10,12,13,14,61,62] Z ?_
  (conv=>whnf)
  rw[AR (by omega:d.au.length=1),show YY (RA ins) d.au 1=auF ins d.au by unfold auF;rw[hn],htl];refine wM 2 [5,28,4,8] [13,14,62,2,3,4,5,8,12,61] Z ?_;refine yH (st0:=⟨[(13,.s (.slice none 0 0)),(14,.s (.slice none 0 0)),(62,iA 0),(2,.sl false ((ins.take 1).map kX)),(3,iA now),(4,.ptr 4 0 0),(5,.ptr 5 0 0),(8,.ptr 8 0 0),(12,.ref 28 0 1),(61,iA 1)],[(5,.box (UI (dkU d ins))),(28,.arr 1 [.s (.slice none 0 0)] false),(4,.box [.sl false (c.js.map vC),.sl false (c.ags.map vU),iA c.per,iA c.cap,iA c.hold,iA c.lock]),(8,.box FZ)]⟩) (by rfl) ?_;refine WW ?_;refine wM 1 [5,28,4,8] [77,76,75,13,14,62,2,3,4,5,8,12,61] Z ?_;refine yH (st0:=⟨[(77,iA 0),(76,iA 0),(75,.sl false []),(13,.s (.slice none 0 0)),(14,.s (.slice none 0 0)),(62,iA 0),(2,.sl false ((ins.take 1).map kX)),(3,iA now),(4,.ptr 4 0 0),(5,.ptr 5 0 0),(8,.ptr 8 0 0),(12,.ref 28 0 1),(61,iA 1)],[(5,.box (UI (dkU d ins))),(28,.arr 1 [.s (.slice none 0 0)] false),(4,.box [.sl false (c.js.map vC),.sl false (c.ags.map vU),iA c.per,iA c.cap,iA c.hold,iA c.lock]),(8,.box FZ)]⟩) (by rfl) ?_;refine WW ?_;refine yH (st0:=⟨[(13,.s (.slice none 0 0)),(14,.s (.slice none 0 0)),(62,iA 1),(2,.sl false ((ins.take 1).map kX)),(3,iA now),(4,.ptr 4 0 0),(5,.ptr 5 0 0),(8,.ptr 8 0 0),(12,.ref 28 0 1),(61,iA 1)],[(5,.box (UI (dkU d ins))),(28,.arr 1 [.s (.slice none 0 0)] false),(4,.box [.sl false (c.js.map vC),.sl false (c.ags.map vU),iA c.per,iA c.cap,iA c.hold,iA c.lock]),(8,.box FZ)]⟩) (by rfl) ?_;refine zY km ?_;exact zL [] Z Z Z Z
def BG:Ss:=⟨true,false,[],false⟩
def sdL (d:xI):List AV:=[iA d.rg.num,zD yA d.rg.ag.sec,iA d.rg.ag.rights,iA d.rg.ag.cls,zD iA d.rg.ag.lim,iA d.rg.ag.req,iA d.rg.ag.ses,iA d.rg.ag.rate,iA d.rg.ag.burst,zD yY d.rg.tk,zD vY d.rg.vh,iA d.rg.bk.level,iA d.rg.bk.rate,iA d.rg.bk.burst,zD yL d.rq,zD kE d.dr,zD bA d.au,.ref 36 0 1]
theorem zMd (c:Cf) (d:xI) (hI:qF c d) (hn:d.au.length=1) (v:List Vw) (hv:v.length<=4) (hb:∀w∈v,BL w):∃d':xI,RT (cD d' v 1)/\zO 58 [.ptr 9 0 0,vL c,zD vW v,iA 1] [(9,.box (sdL d)),(36,.arr 4 [jB BG] false)] (.sl false [zD yA (bsM (cD d' v 1))]) [(9,.box (sdL d')),(36,.arr 4 [jB BG] false)]:=by
 have kt:=zDt BG jP (by simp[BG]);rw[show VV BG=(BG,⟨true,[]⟩)from Z]at kt;have kb:=EC hI 1;have hB:=zQp hI 1;obtain⟨hB,hB2,_⟩:=hB;have hbn:(MC d 1).au.length=1:=hn;have kk:=zMc hB 1 zB zB hbn [⟨true,[]⟩] Z;have hM:=zQk (zH4 hB [⟨true,[]⟩]) 1 zB zB;generalize dkM (dkU (MC d 1) [⟨true,[]⟩]) 1=d2 at *;generalize MC d 1=d1 at *;have hq:=hM.a.q;have ks:=FT d2 hM.bd hq v 1 zB hb;have hs:=zLx d2 hq v 1 zB zB hv hb;refine⟨d2,hs,?_⟩;obtain⟨⟨b1,_⟩,kf⟩:=zDr _ hs;have hbl:=zA yA (bsM (cD d2 v 1));generalize bsM (cD d2 v 1)=B at *;generalize cD d2 v 1=st at *;unfold sdL;unfold zK wI at *;refine eM call58 λF hF=>?_
 refine WW ?_;refine wM 2 [5,9,36,26] [32,31,0,2,3,5,9] Z ?_;refine yH (st0:=⟨[(32,iA 0),(31,iA 1),(0,.ptr 9 0 0),(2,zD vW v),(3,iA 1),(5,.ptr 5 0 0),(9,.ref 26 0 1)],[(5,.box [zD vC c.js,zD vU c.ags,iA c.per,iA c.cap,iA c.hold,iA c.lock]),(9,.box [iA d.rg.num,zD yA d.rg.ag.sec,iA d.rg.ag.rights,iA d.rg.ag.cls,zD iA d.rg.ag.lim,iA d.rg.ag.req,iA d.rg.ag.ses,iA d.rg.ag.rate,iA d.rg.ag.burst,zD yY d.rg.tk,zD vY d.rg.vh,iA d.rg.bk.level,iA d.rg.bk.rate,iA d.rg.bk.burst,zD yL d.rq,zD kE d.dr,zD bA d.au,.ref 36 0 1]),(36,.arr 4 [jB BG] false),(26,.arr 2 [.agg [bA false,.s (.slice none 0 0)]] false)]⟩) (by rfl) ?_;refine zY kt ?_;refine yH (st0:=⟨[(32,iA 1),(31,iA 1),(0,.ptr 9 0 0),(2,zD vW v),(3,iA 1),(5,.ptr 5 0 0),(9,.ref 26 0 1)],[(5,.box [zD vC c.js,zD vU c.ags,iA c.per,iA c.cap,iA c.hold,iA c.lock]),(9,.box [iA d.rg.num,zD yA d.rg.ag.sec,iA d.rg.ag.rights,iA d.rg.ag.cls,zD iA d.rg.ag.lim,iA d.rg.ag.req,iA d.rg.ag.ses,iA d.rg.ag.rate,iA d.rg.ag.burst,zD yY d.rg.tk,zD vY d.rg.vh,iA d.rg.bk.level,iA d.rg.bk.rate,iA d.rg.bk.burst,zD yL d.rq,zD kE d.dr,zD bA d.au,.ref 36 0 1]),(36,.arr 4 [jB BG] false),(26,.arr 2 [kX ⟨true,[]⟩] false)]⟩) (by rfl) ?_
 (repeat' (first|refine WS ?_|refine SG (I2 (λhc=>?_) λhc=>?_)|refine SG λhc=>?_|(first|refine xS ?_|refine xC ?_|refine yC Z ?_|refine zU Z ?_|refine yZ ?_|refine xB ?_|refine yQ ?_)|fail))
 refine uS [5,9,36] [0,2,3,5,9] Z ?_
 (conv=>whnf)
 refine yR (wZ kb kk) ?_;refine wM 2 [9,36,80] [83,82,0,2,3,9,12,15] Z ?_;refine yH (st0:=⟨[(83,iA 0),(82,iA 1),(0,.ptr 9 0 0),(2,zD vW v),(3,iA 1),(9,.sl false [kX ⟨true,[]⟩]),(12,.sl false [.s (.slice none 0 0)]),(15,.ref 80 0 1)],[(9,.box [iA d2.rg.num,zD yA d2.rg.ag.sec,iA d2.rg.ag.rights,iA d2.rg.ag.cls,zD iA d2.rg.ag.lim,iA d2.rg.ag.req,iA d2.rg.ag.ses,iA d2.rg.ag.rate,iA d2.rg.ag.burst,zD yY d2.rg.tk,zD vY d2.rg.vh,iA d2.rg.bk.level,iA d2.rg.bk.rate,iA d2.rg.bk.burst,zD yL d2.rq,zD kE d2.dr,zD bA d2.au,.ref 36 0 1]),(36,.arr 4 [jB BG] false),(80,.arr 1 [.s (.slice none 0 0)] false)]⟩) (by rfl) ?_;refine WLo ks ?_;refine wM 2 [9,36,80] [106,105,104,16,83,82,0,2,3,9,12,15] Z ?_;refine yH (st0:=⟨[(106,iA 0),(105,iA 1),(104,.sl false [yF st]),(16,iA 0),(83,iA 0),(82,iA 1),(0,.ptr 9 0 0),(2,zD vW v),(3,iA 1),(9,.sl false [kX ⟨true,[]⟩]),(12,.sl false [.s (.slice none 0 0)]),(15,.ref 80 0 1)],[(9,.box [iA d2.rg.num,zD yA d2.rg.ag.sec,iA d2.rg.ag.rights,iA d2.rg.ag.cls,zD iA d2.rg.ag.lim,iA d2.rg.ag.req,iA d2.rg.ag.ses,iA d2.rg.ag.rate,iA d2.rg.ag.burst,zD yY d2.rg.tk,zD vY d2.rg.vh,iA d2.rg.bk.level,iA d2.rg.bk.rate,iA d2.rg.bk.burst,zD yL d2.rq,zD kE d2.dr,zD bA d2.au,.ref 36 0 1]),(36,.arr 4 [jB BG] false),(80,.arr 1 [.s (.slice none 0 0)] false)]⟩) (by rfl) ?_;refine WLo kf ?_;refine yH (st0:=⟨[(106,iA 1),(105,iA 1),(104,.sl false [yF st]),(16,iA 0),(83,iA 0),(82,iA 1),(0,.ptr 9 0 0),(2,zD vW v),(3,iA 1),(9,.sl false [kX ⟨true,[]⟩]),(12,.sl false [.s (.slice none 0 0)]),(15,.ref 80 0 1)],[(9,.box [iA d2.rg.num,zD yA d2.rg.ag.sec,iA d2.rg.ag.rights,iA d2.rg.ag.cls,zD iA d2.rg.ag.lim,iA d2.rg.ag.req,iA d2.rg.ag.ses,iA d2.rg.ag.rate,iA d2.rg.ag.burst,zD yY d2.rg.tk,zD vY d2.rg.vh,iA d2.rg.bk.level,iA d2.rg.bk.rate,iA d2.rg.bk.burst,zD yL d2.rq,zD kE d2.dr,zD bA d2.au,.ref 36 0 1]),(36,.arr 4 [jB BG] false),(80,.arr 1 [.sl false (B.map yA)] false)]⟩) (by rfl) ?_;refine WL ?_;refine yH (st0:=⟨[(83,iA 1),(82,iA 1),(0,.ptr 9 0 0),(2,zD vW v),(3,iA 1),(9,.sl false [kX ⟨true,[]⟩]),(12,.sl false [.s (.slice none 0 0)]),(15,.ref 80 0 1)],[(9,.box [iA d2.rg.num,zD yA d2.rg.ag.sec,iA d2.rg.ag.rights,iA d2.rg.ag.cls,zD iA d2.rg.ag.lim,iA d2.rg.ag.req,iA d2.rg.ag.ses,iA d2.rg.ag.rate,iA d2.rg.ag.burst,zD yY d2.rg.tk,zD vY d2.rg.vh,iA d2.rg.bk.level,iA d2.rg.bk.rate,iA d2.rg.bk.burst,zD yL d2.rq,zD kE d2.dr,zD bA d2.au,.ref 36 0 1]),(36,.arr 4 [jB BG] false),(80,.arr 1 [.sl false (B.map yA)] false)]⟩) (by rfl) ?_;refine WL ?_;exact zL [9,36] Z Z Z Z
def cV (k:Int):Ev:=⟨k,0,0,0,[]⟩
def GU {k:Int} (h:1<=k/\k<=6):LG (cV k):=⟨h,by dsimp only[cV];omega,by dsimp only[cV];omega,by dsimp only[cV];omega,jP,zYl _⟩
def zRh:zO 62 [.agg [bA false,bA false,.s (.slice none 0 0),bA false],dU (cV 1)] [] (jB BG) []:=by
 have ko:=zDu ⟨false,false,[],false⟩ zW;rw[show(if(⟨false,false,[],false⟩:Ss).op=true then⟨false,false,[],false⟩else⟨true,false,[],false⟩:Ss)=BG from Z]at ko;unfold cV dU;refine eM call62 λF hF=>?_
 (repeat' (first|refine uJ ?_|apply xL|apply wB|intro hc|(refine zE ?_;refine xJ ?_;(refine vP 79 ?_;refine DA 9 Z Z Z ?_;refine zP (zH (ko) Z Z Z Z Z) Z ?_))|(refine zE ?_;first|refine SM ?_)|fail))
 exact zJ
theorem zFu (c:Cf) (hc:BI c) (a:Ag) (hs:a.ses=1) (h0:c.ags.getD 0 default=a) (ho:owF c 0=(0,0)) (v:List Vw) (hv:v.length<=4) (hb:∀w∈v,BL w):∃d':xI,RT (cD d' v 1)/\zO 24 [vL c,iA 0,zD dU [cV 1,cV 6],.sl false [zD vW v]] [] (.sl false [.sl false [zD yA (bsM (cD d' v 1))]]) []:=by
 have hal:=hc.a;have hav:AgV a:=by rw[<-h0];exact hc.av _ (zX c.ags 0 zB)
 have kn:=(zQo 0 a hav).1;have hI:=zIa (c:=c) hav 0 zB;rw[show a.ses.toNat=1 by omega]at kn hI;have hn:(VQ 0 a 1).au.length=1:=rfl;have hau:(VQ 0 a 1).au.map bA=[bA false]:=rfl;obtain⟨d2,hs2,kt⟩:=zMd c _ hI hn v hv hb;refine⟨d2,hs2,?_⟩;have kp:=zRh;have ko:=zBw c hc.ag 0 zB;rw[ho]at ko;have kw:=zGd c hc.ag 0 (cV 1) (GU zB);rw[show KT c 0 (cV 1)=true by unfold KT;rw[show(cV 1).s=0 from Z,ho];rfl]at kw;have hya:=zM vU c.ags 0 zB;rw[h0]at hya;have hagl:=zA vU c.ags;unfold zK wI at kn;unfold sdL at kt;rw[show zD bA (VQ 0 a 1).au= .sl false [bA false]from Z]at kn kt;clear hI hn hau;generalize VQ 0 a 1=d at *;generalize bsM (cD d2 v 1)=B at *;unfold vL dU cV at *;refine eM call24 λF hF=>?_
 have hz1:([bA false]:List AV).length=1:=rfl;refine zY kn ?_;refine wM 3 [4,9,36] [40,39,38,1,3,4,9,10] Z ?_;refine yH (st0:=⟨[(40,iA 0),(39,iA 2),(38,.sl false [.agg [iA 1,iA 0,iA 0,iA 0,zD yA []],.agg [iA 6,iA 0,iA 0,iA 0,zD yA []]]),(1,iA 0),(3,.sl false [zD vW v]),(4,.ptr 4 0 0),(9,.ptr 9 0 0),(10,.s (.slice none 0 0))],[(4,.box [zD vC c.js,zD vU c.ags,iA c.per,iA c.cap,iA c.hold,iA c.lock]),(9,.box [iA d.rg.num,zD yA d.rg.ag.sec,iA d.rg.ag.rights,iA d.rg.ag.cls,zD iA d.rg.ag.lim,iA d.rg.ag.req,iA d.rg.ag.ses,iA d.rg.ag.rate,iA d.rg.ag.burst,zD yY d.rg.tk,zD vY d.rg.vh,iA d.rg.bk.level,iA d.rg.bk.rate,iA d.rg.bk.burst,zD yL d.rq,zD kE d.dr,.sl false [bA false],.ref 36 0 1]),(36,.arr 4 [.agg [bA false,bA false,.s (.slice none 0 0),bA false]] false)]⟩) (by rfl) ?_;refine yR (fQ kw ko kp) ?_;refine yH (st0:=⟨[(40,iA 1),(39,iA 2),(38,.sl false [.agg [iA 1,iA 0,iA 0,iA 0,zD yA []],.agg [iA 6,iA 0,iA 0,iA 0,zD yA []]]),(1,iA 0),(3,.sl false [zD vW v]),(4,.ptr 4 0 0),(9,.ptr 9 0 0),(10,.s (.slice none 0 0))],[(4,.box [zD vC c.js,zD vU c.ags,iA c.per,iA c.cap,iA c.hold,iA c.lock]),(9,.box [iA d.rg.num,zD yA d.rg.ag.sec,iA d.rg.ag.rights,iA d.rg.ag.cls,zD iA d.rg.ag.lim,iA d.rg.ag.req,iA d.rg.ag.ses,iA d.rg.ag.rate,iA d.rg.ag.burst,zD yY d.rg.tk,zD vY d.rg.vh,iA d.rg.bk.level,iA d.rg.bk.rate,iA d.rg.bk.burst,zD yL d.rq,zD kE d.dr,.sl false [bA false],.ref 36 0 1]),(36,.arr 4 [jB BG] false)]⟩) (by rfl) ?_;refine WLo kt ?_;refine yH (st0:=⟨[(40,iA 2),(39,iA 2),(38,.sl false [.agg [iA 1,iA 0,iA 0,iA 0,zD yA []],.agg [iA 6,iA 0,iA 0,iA 0,zD yA []]]),(1,iA 0),(3,.sl false [zD vW v]),(4,.ptr 4 0 0),(9,.ptr 9 0 0),(10,.sl false [.sl false [zD yA B]])],[(4,.box [zD vC c.js,zD vU c.ags,iA c.per,iA c.cap,iA c.hold,iA c.lock]),(9,.box [iA d2.rg.num,zD yA d2.rg.ag.sec,iA d2.rg.ag.rights,iA d2.rg.ag.cls,zD iA d2.rg.ag.lim,iA d2.rg.ag.req,iA d2.rg.ag.ses,iA d2.rg.ag.rate,iA d2.rg.ag.burst,zD yY d2.rg.tk,zD vY d2.rg.vh,iA d2.rg.bk.level,iA d2.rg.bk.rate,iA d2.rg.bk.burst,zD yL d2.rq,zD kE d2.dr,zD bA d2.au,.ref 36 0 1]),(36,.arr 4 [jB BG] false)]⟩) (by rfl) ?_;refine WW ?_;exact zJ
def zMe (c:Cf) (h:BI c) (e9:Ev) (h9:LG e9) (hk:e9.k=1):∃v:List Vw,GP (ZH c) [cV 1,cV 6,e9]=[v]/\v.length<=4/\∀w∈v,BL w:=by
 have hb:=zRc c h;have h0:(ZH c).y.now=0:=rfl;have d1:=VR hb zB (GU (k:=1) zB);have n1:=d1.n;have f1:(bQ (ZH c) (cV 1)).fl=false:=by rw[d1.s (.inl Z)]
 have d2:=VR d1.i zB (GU (k:=6) zB);have n2:=d2.n;obtain⟨y',Td,hM,e3,_⟩:=d2.t6 Z;have f2:(bQ (bQ (ZH c) (cV 1)).b (cV 6)).fl=true:=by rw[e3]
 have d3:=VR d2.i zB h9;have f3:(bQ (bQ (bQ (ZH c) (cV 1)).b (cV 6)).b e9).fl=false:=by rw[d3.s (.inl hk)]
 have hy:=d2.i.y;refine⟨(bQ (bQ (ZH c) (cV 1)).b (cV 6)).b.y.vw,?_,by have:=hy.wl;have:=hy.v.j;omega,hy.wb⟩;unfold GP;rw[f1,zX2 zYp,yAm];unfold GP;rw[f2,zX3 Z];unfold GP;rw[f3,zX2 zYp];rfl
def BV:Ev:=⟨1,9,0,0,[]⟩
def zQd:LG BV:=⟨by dsimp only[BV];omega,by dsimp only[BV];omega,by dsimp only[BV];omega,by dsimp only[BV];omega,jP,zYl _⟩
def zDy:zO 18 [] [] (bA true) []:=by
 have kn:=zQu [] zW;have kc:=zIe d00 15;have hv:=zU7 d00 15 zB
 have hev:∀e∈[cV 1,cV 6,BV],LG e:=λe he=>by
  simp only[zZg,yBj,yCo]at he
  rcases he with rfl|rfl|rfl
  ·exact GU zB
  ·exact GU zB
  ·exact zQd
 have km:=zMk (QH d00 15) hv.ag 0 [cV 1,cV 6,BV] zW hev;rw[show mnF (QH d00 15) 0 [cV 1,cV 6,BV]=[cV 1,cV 6]from Z]at km;have kv:=zP3 (QH d00 15) hv [cV 1,cV 6,BV] zW hev;rw[show([cV 1,cV 6,BV]:List Ev).take 400=[cV 1,cV 6,BV]from Z]at kv;obtain⟨v,e1,v1,v2⟩:=zMe (QH d00 15) hv BV zQd Z;rw[e1]at kv;obtain⟨d',hs,kr⟩:=zFu (QH d00 15) hv _ (show((QH d00 15).ags.getD 0 default).ses=1 from Z) Z (show owF (QH d00 15) 0=(0,0)from Z) v v1 v2;obtain⟨q,hq,hq7⟩:=(zDr _ hs).1.2 (by simp[cD,stM]);rw[hq]at kr;generalize QH d00 15=c at *;generalize cfD d00 15=e0 at *;have hq1:=zA yA q;rw[show zD yA (90::165::1::(cD d' v 1).kind::q)= .sl false (yA 90::yA 165::yA 1::yA 17::q.map yA)from Z]at kr;rw[show zD vsA [v]= .sl false [zD vW v]from Z]at kv;rw[show zD dU [cV 1,cV 6,BV]= .sl false [dU (cV 1),dU (cV 6),dU BV]from Z]at km kv;rw[show zD dU [cV 1,cV 6]= .sl false [dU (cV 1),dU (cV 6)]from Z]at km kr;generalize q.map yA=Q at *;have hz2:(yA 90::yA 165::yA 1::yA 17::Q).length=q.length+4:=by simp only[zYh];omega
 unfold vL dU cV BV at *;refine eM call18 λF hF=>?_
 (have zc1:=kn;have zc2:=kc;have zc3:=km;have zc4:=kv;have zc5:=kr;(repeat' (first|refine MF ?_|apply xL|apply wB|intro hc|(refine zE ?_;first|(refine xR ?_;refine DA 6 Z Z Z ?_;refine DA 7 Z Z Z ?_;refine DA 8 Z Z Z ?_;refine bV tok Z Z ?_))|refine SB ?_|fail))<;>clear zc1 zc2 zc3 zc4 zc5)
 exact zJ
end Av
end Go.Proofs.YteajjdidebfcjaaGreat
