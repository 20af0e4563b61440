/- Part 29. -/
import Derived.Test.YtmamjhmoegjapaaGreatQ28
namespace Go.Proofs.YtmamjhmoegjapaaGreat
namespace Av
open Tryz
set_option linter.all false
set_option maxRecDepth 4000
set_option maxHeartbeats 8000000
theorem zJ2 (b:List Int) (hb:BY b) (hl:b.length<=1000) (g:Bool) (N:Nat) (hN:1<=N/\N<=1000):zN 59 [DP b g,iA N] []
  (.tup [DP (b.drop (YR N (qI b.length b) ⟨0,g,[]⟩).t) (YR N (qI b.length b) ⟨0,g,[]⟩).g,zD wI (YR N (qI b.length b) ⟨0,g,[]⟩).its]) []:=by
 have k:=zO0 b hb hl g N hN;generalize YR N (qI b.length b) ⟨0,g,[]⟩=r at *;unfold DP at *;refine eM call59 λF hF=>?_
 repeat' (first|(refine zE ?_;first|refine uG (kX (v:=AV.agg _) 2 rfl rfl) rfl rfl rfl ?_|refine uG (kX (v:=AV.s _) 1053 rfl rfl) rfl rfl rfl ?_|refine vK tok rfl rfl ?_|refine ZW tok rfl rfl rfl rfl ?_|refine qC ?_)|(first|refine xS ?_|refine yZ ?_|refine vA rfl ?_|refine zX rfl ?_|refine zQ rfl ?_|refine xJ rfl (λhc=>?_) (λhc=>?_)|refine yX ?_|refine yU ?_|refine xA ?_|refine yS ?_))
 refine zU k ?_;exact zK
theorem zVy (b:List Int) (hl:b.length<=256) (g:Bool) (x:List Int) (hx:x.length<=1000000):zN 97 [DP b g,zD yA x] [] (.tup [DP (b++x.take (WF b.length x.length)) g,bA (decide (WF b.length x.length=x.length))]) []:=by
 have hbl:=zA yA b;have hxl:=zA yA x;have hf:WF b.length x.length<=x.length/\b.length+WF b.length x.length<=256:=by unfold WF;omega
 have e1:min ((x.length:Nat):Int) (max (256-((b.length:Nat):Int)) 0)=((WF b.length x.length:Nat):Int):=by unfold WF;omega
 have e2:zD yA (b++x.take (WF b.length x.length))= .sl false (b.map yA++(x.take (WF b.length x.length)).map yA):=by unfold zD;rw[zXf]
 unfold DP;rw[e2];generalize WF b.length x.length=f at *;refine eM call97 λF hF=>?_
 refine WW ?_;rw[hbl,hxl,e1];refine zH [] rfl rfl ?_ rfl
 show AV.tup [AV.agg [AV.sl false (List.take (b.map yA++(x.take f).map yA).length (b.map yA++(x.take f).map yA)),bA g],bA (qZ .eql (f:Int) (x.length:Int))]=_
 rw[zXe,show qZ .eql (f:Int) (x.length:Int)=decide (f=x.length) by
  by_cases h9:f=x.length
  ·rw[h9];simp[qZ]
  ·have:(f:Int)≠(x.length:Int):=by omega
   simp[qZ,h9,this]]
def VU (s:Ss):Ss×In:=if s.op=true then(⟨true,false,s.bf.drop (YR 4 (qI s.bf.length s.bf) ⟨0,s.gb,[]⟩).t,(YR 4 (qI s.bf.length s.bf) ⟨0,s.gb,[]⟩).g⟩,⟨true,(if s.dr=true then [⟨15,0,[]⟩]else [])++(YR 4 (qI s.bf.length s.bf) ⟨0,s.gb,[]⟩).its⟩)else(s,⟨false,[]⟩)
theorem zOp (s:Ss) (hb:BY s.bf) (hl:s.bf.length<=1000):zN 17 [jJ s] [] (.tup [jJ (VU s).1,jQ (VU s).2]) []:=by
 obtain⟨op,dr,bf,gb⟩:=s;dsimp only at hb hl;have k1:=LL ⟨op,dr,bf,gb⟩ hl;have k2:=zJ2 bf hb hl gb 4 zB;have hlen:=IR (N:=4) (qI bf.length bf) ⟨0,gb,[]⟩ (by show 0<4;omega);unfold VU;dsimp only;generalize YR 4 (qI bf.length bf) ⟨0,gb,[]⟩=r at *;have hrl:=zA wI r.its;unfold DP at k2;cases op
 ·rw[zW8 zXx];unfold jJ at *;unfold jQ;refine eM call17 λF hF=>?_
  refine zU k1 ?_;exact zK
 ·rw[zW9 rfl];unfold jJ at *;unfold jQ;cases dr
  ·rw[zW8 zXx,zZj];refine eM call17 λF hF=>?_
   refine zU k2 ?_;refine zAj 32 1055 3 rfl rfl rfl ?_;refine WW ?_;refine zH [] rfl rfl ?_ rfl
   show AV.tup [_,AV.agg [_,AV.sl false (List.take (r.its.map wI).length (r.its.map wI))]]=_
   rw[zXe];rfl
  ·rw[zW9 rfl,show zD wI ([⟨15,0,[]⟩]++r.its)= .sl false ([.agg [iA 15,iA 0,zD yA []]]++r.its.map wI) by unfold zD;rw[zXf];rfl];refine eM call17 λF hF=>?_
   (have zc1:=k2;(repeat' (first|refine aU ?_|refine xQ (λhc=>?_) (λhc=>?_)|refine wD (λhc=>?_)|(refine zE ?_;first|(refine yT ?_;refine SI 18 rfl rfl rfl ?_;refine qX tok rfl rfl ?_))|refine SB ?_|fail))<;>clear zc1)
   refine zAj 17 1055 3 rfl rfl rfl ?_
   (have zc1:=k2;(repeat' (first|refine qA ?_|refine xQ (λhc=>?_) (λhc=>?_)|refine wD (λhc=>?_)|(refine zE ?_;first|refine SM ?_)|fail))<;>clear zc1)
   refine zH [] rfl rfl ?_ rfl
   show AV.tup [_,AV.agg [_,AV.sl false (List.take ([AV.agg [iA 15,iA 0,zD yA []]]++r.its.map wI).length ([AV.agg [iA 15,iA 0,zD yA []]]++r.its.map wI))]]=_
   rw[zXe];rfl
theorem zOq (s:Ss) (hl:s.bf.length<=1000):zN 52 [jJ s] [] (jJ (if s.op=true then s else⟨true,false,[],false⟩)) []:=by
 obtain⟨op,dr,bf,gb⟩:=s;dsimp only at hl⊢;have k1:=LL ⟨op,dr,bf,gb⟩ hl;cases op
 ·rw[zW8 zXx];unfold jJ at *;refine eM call52 λF hF=>?_
  refine zU k1 ?_;exact zK
 ·rw[zW9 rfl];unfold jJ at *;refine eM call52 λF hF=>?_
  refine zU k1 ?_;exact zK
theorem zOr (s:Ss):zN 53 [jJ s] [] (jJ ⟨false,false,[],false⟩) []:=by
 unfold jJ;refine eM call53 λF hF=>?_
 refine WW ?_;exact zK
theorem zTg (s:Ss) (hl:s.bf.length<=256) (x:List Int) (hx:x.length<=1000000):zN 54 [jJ s,zD yA x] [] (jJ (HW s x)) []:=by
 obtain⟨op,dr,bf,gb⟩:=s;dsimp only at hl;have k1:=LL ⟨op,dr,bf,gb⟩ PU;have k2:=zVy bf hl gb x hx;unfold HW;dsimp only;unfold DP at k2;cases op
 ·rw[zW8 zXx];unfold jJ at *;refine eM call54 λF hF=>?_
  refine zU k1 ?_;exact zK
 ·rw[zW9 rfl];unfold jJ at *;cases hf:decide (WF bf.length x.length=x.length)
  ·rw[hf]at k2;rw[zXg (of_decide_eq_false hf),zZu];refine eM call54 λF hF=>?_
   refine zU k2 ?_;exact zK
  ·rw[hf]at k2;rw[zXj (λh=>h (yBp hf)),yCt];refine eM call54 λF hF=>?_
   refine zU k2 ?_;exact zK
structure SsI (s:Ss):Prop where
 y:BY s.bf
 n:s.bf.length<=256
theorem zJ3 {s:Ss} (h:SsI s):SsI (VU s).1/\InS (VU s).2:=by
 have hn:=h.n;unfold VU;split
 ·refine⟨⟨λx hx=>h.y x (zYl hx),by dsimp only;rw[zYd];omega⟩,?_⟩;have hlen:=IR (N:=4) (qI s.bf.length s.bf) ⟨0,s.gb,[]⟩ (by show 0<4;omega);have hmem:=zB6 (N:=4) (Pr:=ItK) (qI s.bf.length s.bf) ⟨0,s.gb,[]⟩ (λx hx=>by cases hx) (zOz h.y zB);generalize YR 4 (qI s.bf.length s.bf) ⟨0,s.gb,[]⟩=r at *;refine⟨?_,λx hx=>?_⟩
  ·dsimp only;rw[zXb];split
   ·simp only[zXl,zYa];omega
   ·simp only[zYa];omega
  ·rcases zXs.1 hx with hx|hx
   ·split at hx
    ·rw[zX9.1 hx];exact⟨kC,zXp _,by dsimp only;omega,by dsimp only;omega⟩
    ·cases hx
   ·exact hmem x hx
 ·exact⟨h,zXp _,λx hx=>by cases hx⟩
theorem zTh {s:Ss} (h:SsI s) {x:List Int} (hx:BY x):SsI (HW s x):=by
 refine⟨?_,zK9 h.n x⟩;unfold HW;split
 ·intro y hy
  rcases zXs.1 hy with hy|hy
  ·exact h.y y hy
  ·exact hx y (zY1 hy)
 ·exact h.y
theorem zB2 {i:Nat} {n q:Int} (h5:i<=4) (q0:0<=q) (q1:0<i->0<q) (hq:q<128) (hb:n+q*128 ^ i<=4294967295) (r:List Int):XX (q::r) i n=(n+q*128 ^ i,(i:Int)+1,0):=by
 have ht:q.tmod 128=q:=by rw[zYn q0];omega
 rw[XX,zW8 zB,zW8 zB,ht,zW8 (by
  rintro(h|⟨h1,h2⟩)
  ·omega
  ·have:=q1 h1;omega)]
theorem zJ4:∀(f:Nat) (q:Int) (i:Nat) (n:Int) (r:List Int),i+f=4->0<=q->(0<i->0<q)->0<=n->n+q*128 ^ i<=4294967295->XX (FG f q++r) i n=(n+q*128 ^ i,(i:Int)+((FG f q).length:Int),0)
 | 0,q,i,n,r,h,q0,q1,n0,hb=>by
  obtain rfl:i=4:=by omega
  have hq:q<128:=by
   have:q*268435456<=4294967295:=by
    have h1:(128:Int) ^ 4=268435456:=by decide
    rw[h1]at hb;omega
   omega
  exact zB2 zB q0 q1 hq hb r
 | f+1,q,i,n,r,h,q0,q1,n0,hb=>by
  by_cases hq:q<128
  ·rw[UO hq];exact zB2 zB q0 q1 hq hb r
  ·rw[QR zB];have ht:(q % 128+128).tmod 128=q % 128:=by rw[zYn zB];omega
   have e:(q % 128)*128 ^ i+(q/128)*128 ^ (i+1)=q*128 ^ i:=by
    rw[yCh,yDe (128 ^ i) 128,<-Int.mul_assoc,<-Int.add_mul]
    congr 1
    omega
   have hp:(0:Int)<=128 ^ i:=Int.pow_nonneg zB;have hm:0<=(q % 128)*128 ^ i:=yC6 zB hp;rw[zZx,XX,zW8 zB,zW9 zB,ht,zJ4 f (q/128) (i+1) _ r zB zB (λ_=>by omega) zB zB,zXl,Int.add_assoc,e]
   congr 1
   congr 1
   omega
theorem zTi {q:Int} (q0:0<=q) (q1:q<=4294967295) (r:List Int):aA (uZ q++r)=(q,((uZ q).length:Int),0):=by
 have h:=zJ4 4 q 0 0 r rfl q0 (λh=>absurd h zB) (zZf _) wQ;simp at h;exact h
theorem DI:∀(l:List Int) (r:List Int),(∀x∈l,0<=x/\x<=4294967295)->YM l.length ((l.map uZ).flatten++r)=some (l,r)
 | [],r,_=>rfl
 |v::l,r,h=>by
  obtain⟨v0,v1⟩:=h v zS;have e:((v::l).map uZ).flatten++r=uZ v++((l.map uZ).flatten++r):=by simp
  rw[e,zXl,YM,zTi v0 v1];dsimp only;rw[zW9 rfl,show((uZ v).length:Int).toNat=(uZ v).length from rfl,yC7,DI l r λx hx=>h x VK]
theorem zJ5 (f g gr:Int) (ar:List Int) (f0:0<=f):∀i,i<=ar.length->LD f g gr ar i=if(i:Int)<=f∨g<=0 then((ar.take i).map uZ).flatten else((ar.take f.toNat).map uZ).flatten++(uZ gr++(((ar.drop f.toNat).take (i-f.toNat)).map uZ).flatten)
 |0,_=>by rw[zW9 zB];rfl
 | i +1,hi=>by
  have ih:=zJ5 f g gr ar f0 i zB
  have e:ar.take (i+1)=ar.take i++[ar.getD i default]:=by
   rw[zXh,zXr zB,zZg,yAg zB]
  unfold LD;by_cases hg:g<=0
  ·rw[zW8 zB,ih,zW9 (.inr hg),zW9 (.inr hg),e,zXf,yAh];simp
  ·by_cases h1:(i:Int)<f
   ·rw[zW8 zB,ih,zW9 zB,zW9 zB,e,zXf,yAh];simp
   ·rw[zW8 (show¬(((i+1:Nat):Int)<=f∨g<=0) by omega)]
    have e2:(ar.drop f.toNat).take (i+1-f.toNat)=(ar.drop f.toNat).take (i-f.toNat)++[ar.getD i default]:=by
     rw[show i+1-f.toNat=(i-f.toNat)+1 by omega,yAg PP,List.getElem_drop,zXh,zXr zB,zZg]
     congr 3
     omega
    rw[e2,zXf,yAh];by_cases h2:(i:Int)=f
    ·subst h2;rw[zW9 ⟨rfl,zB⟩,ih,zW9 zB];simp
    ·rw[zW8 zB,ih,zW8 zB];simp
theorem zJ6 (f g gr:Int) (ar:List Int) (f0:0<=f) (hf:f<=ar.length):OQ f g gr ar ar.length=((ar.take f.toNat).map uZ).flatten++((if 0<g then uZ gr else [])++((ar.drop f.toNat).map uZ).flatten):=by
 have ih:=zJ5 f g gr ar f0 ar.length (zXc _);have ed:(ar.drop f.toNat).take (ar.length-f.toNat)=ar.drop f.toNat:=zXk (by rw[zYd];exact zXc _);rw[ed,zXe]at ih;unfold OQ;by_cases hg:g<=0
 ·rw[zW8 zB,ih,zW9 (.inr hg),zW8 zB,zZj,<-yAh,<-zXf,zZ1]
 ·rw[zW9 (show 0<g by omega)];by_cases h2:(ar.length:Int)=f
  ·rw[zW9 ⟨h2,zB⟩,ih,zW9 zB,zXk zB,yAw zB];simp
  ·rw[zW8 zB,ih,zW8 zB]
theorem zTj (k:Int) (fx:Nat) (lo hi sd:Int) (c1:zN 124 [iA k] [] (.tup [.agg [iA 0,iA (fx:Int),iA 0,iA lo,iA hi,iA sd],bA true]) []) (hf:fx<=4) (ar da:List Int) (hn:VZ ar) (hl:ar.length=fx) (hd:sd= -1∨(da.length:Int)=sd) (p:List Int) (hp:p=(ar.map uZ).flatten++da) (hb:BY p) (hpl:p.length<=200):zN 80 [iA k,zD yA p] [] (.tup [zY ⟨k,[],ar,da⟩,iA 0]) []:=by
 have hlp:=zA yA p
 have hdl:da.length<=200:=by
  have:=zX7 List.length hp;rw[zXb]at this;omega
 have c2:=fY p fx hb zB zB;have hnb:YM fx p=some (ar,da):=by rw[hp,<-hl];exact DI ar da hn
 rw[hnb]at c2;unfold nbT at c2;dsimp only at c2;have hla:=zA iA ar;have hld:=zA yA da;have k1:=wA [] zS;have k2:=wA da zB;clear hp hnb hn;by_cases hs:sd= -1
 ·subst hs;refine eM call80 λF hF=>?_
  (have zc1:=c1;have zc2:=c2;have zc3:=k1;have zc4:=k2;(repeat' (first|refine qA ?_|refine xQ (λhc=>?_) (λhc=>?_)|refine wD (λhc=>?_)|(refine zE ?_;first|refine SM ?_|(refine qU ?_;first|refine PW tok rfl rfl rfl rfl rfl (xH _ _ (λ_=>rfl)) zB (yAy _) rfl rfl ?_|refine XR tok rfl rfl rfl rfl rfl (xH _ _ (λ_=>rfl)) zB (yAy _) rfl rfl ?_))|fail))<;>clear zc1 zc2 zc3 zc4)
  exact zK
 ·have hd:=hd.resolve_left hs;refine eM call80 λF hF=>?_
  (have zc1:=c1;have zc2:=c2;have zc3:=k1;have zc4:=k2;(repeat' (first|refine qA ?_|refine xQ (λhc=>?_) (λhc=>?_)|refine wD (λhc=>?_)|(refine zE ?_;first|refine SM ?_|(refine qU ?_;first|refine PW tok rfl rfl rfl rfl rfl (xH _ _ (λ_=>rfl)) zB (yAy _) rfl rfl ?_|refine XR tok rfl rfl rfl rfl rfl (xH _ _ (λ_=>rfl)) zB (yAy _) rfl rfl ?_))|fail))<;>clear zc1 zc2 zc3 zc4)
  exact zK
theorem zTk (k:Int) (fx g:Nat) (hi:Int) (c1:zN 124 [iA k] [] (.tup [.agg [iA 0,iA (fx:Int),iA (g:Int),iA 0,iA hi,iA 0],bA true]) []) (hf:fx<=1) (hg:2<=g/\g<=3) (gr:Nat) (hgr:(gr:Int)<=hi/\hi<=16) (a1 a2:List Int) (hn1:VZ a1) (hn2:VZ a2) (hl1:a1.length=fx) (hl2:a2.length=gr*g) (p:List Int) (hp:p=(a1.map uZ).flatten++(uZ gr++((a2.map uZ).flatten++[]))) (hb:BY p) (hpl:p.length<=200):zN 80 [iA k,zD yA p] [] (.tup [zY ⟨k,[],a1++a2,[]⟩,iA 0]) []:=by
 have hlp:=zA yA p;have hr1:YM fx p=some (a1,uZ gr++((a2.map uZ).flatten++[])):=by rw[hp,<-hl1];exact DI a1 _ hn1
 have hr2:YM 1 (uZ gr++((a2.map uZ).flatten++[]))=some ([(gr:Int)],(a2.map uZ).flatten++[]):=by
  have:=DI [(gr:Int)] ((a2.map uZ).flatten++[]) (λx hx=>by rw[zX9.1 hx];omega);simpa using this
 have hr3:YM (gr*g) ((a2.map uZ).flatten++[])=some (a2,[]):=by rw[<-hl2];exact DI a2 [] hn2
 have hpl2:=zX7 List.length hp;rw[zXb]at hpl2;have hb2:BY (uZ (gr:Int)++((a2.map uZ).flatten++[])):=λx hx=>hb x (by rw[hp];exact zXs.2 (.inr hx))
 have hpl3:(uZ (gr:Int)++((a2.map uZ).flatten++[])).length=(uZ (gr:Int)).length+((a2.map uZ).flatten++[]).length:=zXb;have hb3:BY ((a2.map uZ).flatten++[]):=λx hx=>hb2 x (zXs.2 (.inr hx))
 clear hp;generalize (a2.map uZ).flatten++[]=r2 at *;generalize uZ (gr:Int)++r2=r1 at *;have c2:=TL p fx a1 r1 hb zB zB hr1;have c3:=fY r1 1 hb2 zB zB;rw[hr2]at c3;have hm:gr*g<=48:=zYg (yAe (show gr<=16 by omega) hg.2) xL;have c4:=fY r2 (gr*g) hb3 zB zB;rw[hr3,yBh]at c4;have hm2:0<=(gr:Int)*(g:Int)/\(gr:Int)*(g:Int)<=48:=by rw[<-yBh];omega
 unfold nbT at c3 c4;dsimp only at c3 c4;have h1l:=zA iA a1;have h2l:=zA iA a2;have hr1l:=zA yA r1;have hr2l:=zA yA r2;have k1:=wA [] zS;rw[show zD iA [(gr:Int)]= .sl false [iA (gr:Int)]from rfl]at c3;rw[show zD yA []= .sl false []from rfl]at c4;clear hr1 hr2 hr3;refine eM call80 λF hF=>?_
 (have zc1:=c1;have zc2:=c2;have zc3:=c3;have zc4:=c4;have zc5:=k1;(repeat' (first|refine qA ?_|refine xQ (λhc=>?_) (λhc=>?_)|refine wD (λhc=>?_)|(refine zE ?_;first|refine SM ?_|(refine qU ?_;first|refine PW tok rfl rfl rfl rfl rfl (xH _ _ (λ_=>rfl)) zB (yAy _) rfl rfl ?_|refine XR tok rfl rfl rfl rfl rfl (xH _ _ (λ_=>rfl)) zB (yAy _) rfl rfl ?_))|fail))<;>clear zc1 zc2 zc3 zc4 zc5)
 refine zH [] rfl rfl ?_ rfl
 show AV.tup [.agg [iA k,zD yA [],.sl false ((a1.map iA++a2.map iA).take (a1.map iA++a2.map iA).length),zD yA []],iA 0]=_
 rw[zXe,<-zXf];rfl
theorem zTl {k:Int} {ar da p:List Int} (h:SvM k ar da) (hp:PyF k ar da p) (hb:BY p) (hl:p.length<=200):zN 80 [iA k,zD yA p] [] (.tup [zY ⟨k,[],ar,da⟩,iA 0]) []:=by
 have c1:=zB4 k h.kk;rw[show∀f g lo hi sd:Int,ZQ ⟨0,f,g,lo,hi,sd⟩= .agg [iA 0,iA f,iA g,iA lo,iA hi,iA sd]from λ_ _ _ _ _=>rfl]at c1
 have hsh:((kM k).2.1=0/\0<=(kM k).1/\(kM k).1<=4)∨((kM k).2.1≠0/\(kM k).2.2.1=0/\(kM k).2.2.2.1<=16/\(kM k).2.2.2.2=0/\0<=(kM k).1/\(kM k).1<=1):=by
  have hk:=h.kk;have:k=13∨k=14∨k=15∨k=16∨k=17∨k=18∨k=19∨k=20∨k=21:=by omega
  clear hk h hp c1
  rcases this with rfl|rfl|rfl|rfl|rfl|rfl|rfl|rfl|rfl<;>decide
 obtain⟨gr,g0,g1,g2⟩:=hp;have hd:=h.d;have hn:=h.n;generalize (kM k).1=f at *;generalize (kM k).2.1=g at *;generalize (kM k).2.2.1=lo at *;generalize (kM k).2.2.2.1=hi at *;generalize (kM k).2.2.2.2=sd at*
 rcases g1 with⟨rfl,e1,rfl⟩|⟨e1,e2,e3,e4,e5⟩
 ·obtain⟨fx,rfl⟩:∃fx:Nat,f=(fx:Int):=⟨f.toNat,zB⟩;rw[zJ6 _ _ _ _ zB zB,zW8 zB,zZj,<-yAh,<-zXf,zZ1]at g2;exact zTj k fx lo hi sd c1 zB ar da hn zB hd p g2 hb hl
 ·obtain⟨s1,s2,s3,s4,s5⟩:lo=0/\hi<=16/\sd=0/\0<=f/\f<=1:=by omega
  subst s1 s3;have hda:da=[]:=zYc zB;subst hda;obtain⟨fx,rfl⟩:∃fx:Nat,f=(fx:Int):=⟨f.toNat,zB⟩;obtain⟨gx,rfl⟩:∃gx:Nat,g=(gx:Int):=⟨g.toNat,zB⟩;obtain⟨gn,rfl⟩:∃gn:Nat,gr=(gn:Int):=⟨gr.toNat,zB⟩
  have e6:ar.length=fx+gn*gx:=by
   have:((ar.length:Nat):Int)=((fx+gn*gx:Nat):Int):=by rw[e2,yCe,yBh,yDe]
   omega
  rw[zJ6 _ _ _ _ zB zB,zW9 zB,zYs,zXy,zXy]at g2;have k9:=zTk k fx gx hi c1 zB zB gn ⟨e5,s2⟩ (ar.take fx) (ar.drop fx) (λx hx=>hn x (zY1 hx)) (λx hx=>hn x (zYl hx)) (by rw[zXw];omega) PP p g2 hb hl;rw[zZ1]at k9;exact k9
theorem u32_in {n:Int} (h:0<=n/\n<4294967296):IntKind.u32.wrap n=n:=by
 unfold IntKind.wrap;simp[IntKind.signed,IntKind.bits];omega
theorem zOs (a c:Nat) (ha:a<4294967296) (hc:c<4294967296):orU (a:Int) (c:Int)=((a ||| c:Nat):Int):=by
 unfold orU
 have h1:(BitVec.ofInt IntKind.u32.bits (a:Int) ||| BitVec.ofInt IntKind.u32.bits (c:Int)).toNat=a ||| c:=by
  rw[yC1,yAm,yAm,yAl,yAl,zZt (show a<2 ^ IntKind.u32.bits from ha),zZt (show c<2 ^ IntKind.u32.bits from hc)]
 rw[h1]
 have h2:a ||| c<2 ^ 32:=yCw ha hc
 exact u32_in ⟨zB,zB⟩
theorem VV {n x:Int} (hn:0<=n/\n<16777216) (hx:0<=x/\x<256):orU (IntKind.u32.wrap (n*2 ^ (min (8:Int).toNat IntKind.u32.bits))) x=n*256+x:=by
 rw[show n*2 ^ (min (8:Int).toNat IntKind.u32.bits)=n*256 from rfl,u32_in zB];obtain⟨a,rfl⟩:=zZ2 hn.1;obtain⟨c,rfl⟩:=zZ2 hx.1;have h2:=zOs (a*256) c zB zB;have h3:=yBn (show c<2 ^ 8 by omega) a;rw[yC0]at h3;rw[show((a:Int)*256)=((a*256:Nat):Int) by omega,h2,<-h3];omega
theorem zTm (y:Int):IntKind.u8.wrap y=y % 256:=by
 unfold IntKind.wrap;simp[IntKind.signed,IntKind.bits]
theorem zOt {c:Int} (h:0<=c/\c<4294967296):NL (NM c)=c:=by
 have e:NM c=[c/16777216 % 256,c/65536 % 256,c/256 % 256,c % 256]:=by
  unfold NM;simp only[show List.range 4=[0,1,2,3]from rfl,zYi,zY6,zTm];rw[show c.fdiv (2 ^ (min (8*(3-((0:Nat):Int))).toNat IntKind.u32.bits))=c.fdiv 16777216 from rfl,show c.fdiv (2 ^ (min (8*(3-((1:Nat):Int))).toNat IntKind.u32.bits))=c.fdiv 65536 from rfl,show c.fdiv (2 ^ (min (8*(3-((2:Nat):Int))).toNat IntKind.u32.bits))=c.fdiv 256 from rfl,show c.fdiv (2 ^ (min (8*(3-((3:Nat):Int))).toNat IntKind.u32.bits))=c.fdiv 1 from rfl];rw[zZm _ zB,zZm _ zB,zZm _ zB,zZm _ zB,Int.ediv_one]
 rw[e];unfold NL;simp only[List.foldl_cons,List.foldl_nil];have a1:0<=c/16777216 % 256/\c/16777216 % 256<256/\c/16777216 % 256=c/16777216:=by omega
 have a2:0<=c/65536 % 256/\c/65536 % 256<256/\c/65536=c/16777216*256+c/65536 % 256:=by omega
 have a3:0<=c/256 % 256/\c/256 % 256<256/\c/256=c/65536*256+c/256 % 256:=by omega
 have a4:0<=c % 256/\c % 256<256/\c=c/256*256+c % 256:=by omega
 have b2:c/65536<=65535:=by omega
 have b3:c/256<=16777215:=by omega
 generalize c/16777216 % 256=x1 at *;generalize c/65536 % 256=x2 at *;generalize c/256 % 256=x3 at *;generalize c % 256=x4 at *;rw[VV (n:=0) (x:=x1) ⟨zB,zB⟩ ⟨zB,zB⟩,VV (n:=0*256+x1) (x:=x2) ⟨zB,zB⟩ ⟨zB,zB⟩,VV (n:=(0*256+x1)*256+x2) (x:=x3) ⟨zB,zB⟩ ⟨zB,zB⟩,VV (n:=((0*256+x1)*256+x2)*256+x3) (x:=x4) ⟨zB,zB⟩ ⟨zB,zB⟩];omega
theorem zOu {k:Int} {p:List Int} (hk:1<=k/\k<=22) (hp:p.length<=200) (r:List Int):prF (HF k p++r)=some (⟨0,k,p⟩,p.length+10):=by
 have hc:=zSz (dW k p.length++p);have hn:=zOt hc;have hl4:(NM (dM (dW k p.length++p))).length=4:=by unfold NM;simp
 obtain⟨b4,hb4⟩:∃b,b=NM (dM (dW k p.length++p)):=⟨_,rfl⟩;have e:HF k p++r=90::165::1::k::0::(p.length:Int)::(p++(b4++r)):=by rw[hb4];simp[HF,dW]
 rw[<-hb4]at hn hl4;have hd:dW k p.length++p=1::k::0::(p.length:Int)::p:=rfl;rw[hd]at hn;rw[e]
 have hpn:pnF (90::165::1::k::0::(p.length:Int)::(p++(b4++r)))=p.length:=by
  unfold pnF
  show(0:Int).toNat*256+((p.length:Nat):Int).toNat=p.length
  simp
 have hlen:(90::165::1::k::0::(p.length:Int)::(p++(b4++r))).length=p.length+10+r.length:=by simp only[zXl,zXb];omega
 have e1:((90::165::1::k::0::(p.length:Int)::(p++(b4++r))).drop 2).take (p.length+4)=1::k::0::(p.length:Int)::p:=by
  show(1::k::0::(p.length:Int)::(p++(b4++r))).take (p.length+4)=_
  simp only[yBw];rw[yC9]
 have e2:((90::165::1::k::0::(p.length:Int)::(p++(b4++r))).drop (p.length+6)).take 4=b4:=by
  show((p++(b4++r)).drop p.length).take 4=b4
  rw[yC7];exact yC5 hl4
 have e3:((90::165::1::k::0::(p.length:Int)::(p++(b4++r))).drop 6).take p.length=p:=by
  show(p++(b4++r)).take p.length=p
  exact yC9
 unfold prF;rw[hlen,hpn,zW8 zB,zW8 (by rintro(h|⟨_,h⟩)<;>exact h rfl),zW8 zB,zW8 zB,zW8 zB,e1,e2,zW8 (by rw[hn];exact λh=>h rfl),zW8 (λh=>h rfl),zW8 (by show¬(k<1∨22<k);omega),e3];rfl
theorem zJ7 (k:Int):zN 137 [iA k] [] (bA false) []:=by
 refine eM call137 λF hF=>?_
 refine WW ?_;exact zK
def HJ (l:List (It×Nat)):List It:=l.map (·.1)
theorem zJ8 (l:List (It×Nat)) (i:Nat):dH (l.take i)<=dH l:=by
 have e:dH l=dH (l.take i)+dH (l.drop i):=by
  unfold dH;rw[<-List.sum_append,<-zXf,zZ1]
 omega
theorem zJ9 {l:List (It×Nat)} {i:Nat} {p:It×Nat} (h:l[i]? =some p):dH (l.take (i+1))=dH (l.take i)+p.2:=by
 unfold dH;rw[zZv,h,zXf,List.sum_append];simp
theorem zKa {l:List (It×Nat)} {i:Nat} {p:It×Nat} (h:l[i]? =some p):HJ (l.take (i+1))=HJ (l.take i)++[p.1]:=by
 unfold HJ;rw[zZv,h,zXf];rfl
theorem zOv (b:List Int) (hb:BY b) (hl:b.length<=1000000) (hg:∀p∈qI b.length b,p.1.code=0):zN 99 [DP b false,.fn 137 []] [] (.tup [DP (b.drop (dH (qI b.length b))) false,zD wI (HJ (qI b.length b))]) []:=by
 have kp:=DN b;have ht:=LE b hb hl;have hbl:=zA yA b;have hL:psL b=(qI b.length b).map λp=>[wI p.1,iA (p.2:Int)]:=rfl
 have hps:=IQ (n:=b.length) hb;have hpl:=IS b.length b;rw[show DP b false= .agg [zD yA b,bA false]from rfl];rw[show DP (b.drop (dH (qI b.length b))) false= .agg [zD yA (b.drop (dH (qI b.length b))),bA false]from rfl];unfold psH at kp ht;refine eM call99 λF hF=>?_
 (have zc1:=kp;(repeat' (first|refine WS ?_|refine SG (I2 (λhc=>?_) (λhc=>?_))|refine SG (λhc=>?_)|(refine zE ?_;first|refine SM ?_)|(first|first|refine SR ?_|refine SK (I2 (λhc=>?_) (λhc=>?_))|refine SK (λhc=>?_)|fail|refine wJ ?_|refine wK ?_)|fail))<;>clear zc1)
 refine vT 6 0 1051 3 rfl rfl rfl rfl rfl ?_
 refine vO hF ht rfl [2,3,4,6,7,8,1051] [2,3,4,6,7,8] rfl rfl rfl rfl rfl rfl rfl rfl rfl (λk ys h=>?_) (λi=>[(2,.box [zD yA b,bA false]),(3,.box [.fn 137 []]),(4,.box [.s (.slice none 0 0),bA false]),(6,.box [.ref 1051 0 ((HJ ((qI b.length b).take i)).map wI).length]),(7,.box [iA (dH ((qI b.length b).take i):Int)]),(8,.box [bA false]),(1051,.arr 3 ((HJ ((qI b.length b).take i)).map wI) true)]) (λ_=>True)
  (T:=[(2,.ptr 2 0 0),(3,.ptr 3 0 0),(4,.ptr 4 0 0),(6,.ptr 6 0 0),(7,.ptr 7 0 0),(8,.ptr 8 0 0)]) rfl trivial (λi ys q hys hI F1 h1 h2=>?_) (λhI=>?_)
 ·rw[hL,zXd,zXn]at h;obtain⟨x,_,rfl⟩:=h;rfl
 ·rw[hL,zXd,zXn]at hys;obtain⟨p,hp,rfl⟩:=hys;have hc:=hg p (zYt hp);have hil:i<(qI b.length b).length:=(zXv.1 hp).1;have hu:=zJ8 (qI b.length b) (i+1);rw[zJ9 hp]at hu⊢;rw[zKa hp,zXf];have hal:(HJ ((qI b.length b).take i)).length<=i:=by unfold HJ;rw[zXa,zXw];omega
  have hi3:i<=1000000:=by omega
  have him:=zA wI (HJ ((qI b.length b).take i));clear hp hL hg kp ht hil;generalize dH ((qI b.length b).take i)=t0 at *;generalize HJ ((qI b.length b).take i)=its at *;generalize dH (qI b.length b)=U at *;obtain⟨⟨cd,kd,py⟩,n⟩:=p;dsimp only at hc hu;subst hc;have kst:=zJ7 (((its.map wI++[AV.agg [iA 0,iA kd,zD yA py]]).length:Nat):Int);rw[show wI (({code:=0,kind:=kd,pay:=py}:It),n).fst= .agg [iA 0,iA kd,zD yA py]from rfl,show [(({code:=0,kind:=kd,pay:=py}:It),n).fst].map wI=[AV.agg [iA 0,iA kd,zD yA py]]from rfl];refine WW ?_;refine⟨rfl,λF2 g1 g2=>?_⟩;dsimp only
  (have zc1:=kst;(repeat' (first|refine WS ?_|refine SG (I2 (λhc=>?_) (λhc=>?_))|refine SG (λhc=>?_)|(refine zE ?_;first|refine SM ?_)|(first|first|refine SR ?_|refine SK (I2 (λhc=>?_) (λhc=>?_))|refine SK (λhc=>?_)|fail|refine wJ ?_|refine wK ?_)|fail))<;>clear zc1)
  rw[yCe];exact⟨rfl,trivial⟩
 ·have e1:(qI b.length b).take (psL b).length=qI b.length b:=by rw[hL,zXa,zXe]
  rw[e1];have hal:(HJ (qI b.length b)).length<=1000000:=by unfold HJ;rw[zXa];omega
  have him:=zA wI (HJ (qI b.length b));clear hL hg kp ht e1 hpl;generalize dH (qI b.length b)=U at *;generalize HJ (qI b.length b)=its at *;have kc:=wA (b.drop (U:Int).toNat) PP;rw[show zD yA (b.drop U)=zD yA (b.drop (U:Int).toNat)from rfl]
  (have zc1:=kc;(repeat' (first|refine WS ?_|refine SG (I2 (λhc=>?_) (λhc=>?_))|refine SG (λhc=>?_)|(refine zE ?_;first|refine SM ?_)|(first|first|refine SR ?_|refine SK (I2 (λhc=>?_) (λhc=>?_))|refine SK (λhc=>?_)|fail|refine wJ ?_|refine wK ?_)|fail))<;>clear zc1)
  refine zH [] rfl rfl ?_ rfl
  show AV.tup [_,AV.sl false (List.take (its.map wI).length (its.map wI))]=_
  rw[zXe];rfl
theorem zVz (b:List Int) (hb:BY b) (hl:b.length<=1000000) (hg:∀p∈qI b.length b,p.1.code=0):zN 83 [zD yA b] [] (zD wI (HJ (qI b.length b))) []:=by
 have k:=zOv b hb hl hg;generalize dH (qI b.length b)=U at *;generalize HJ (qI b.length b)=its at *;unfold DP at k;refine eM call83 λF hF=>?_
 refine zU k ?_;exact zK
theorem zW0 (k:Int) (h:13<=k/\k<=21):zN 138 [iA k] [] (.agg [iA (kM k).1,iA (kM k).2.1,iA (kM k).2.2.1,iA (kM k).2.2.2.1,iA (kM k).2.2.2.2]) []:=by
 have:k=13∨k=14∨k=15∨k=16∨k=17∨k=18∨k=19∨k=20∨k=21:=by omega
 rcases this with rfl|rfl|rfl|rfl|rfl|rfl|rfl|rfl|rfl
 all_goals
  refine eM call138 λF hF=>?_
  refine WW ?_;exact zK
theorem zAh (k:Int) (fx gr:Nat) (lo hi sd:Int) (c1:zN 138 [iA k] [] (.agg [iA (fx:Int),iA (gr:Int),iA lo,iA hi,iA sd]) []) (hg:gr<=4) (m:Ms) (c:Nat) (hk:m.kind=k) (ht:m.tok.length<=10) (hd:m.data.length<=100000) (ha:∀x∈m.args,0<=x/\x<=4294967295) (hn:m.args.length<=1000) (hc:gr≠0->m.args.length=fx+c*gr) (hc3:c<=16):
  zN 140 [zY m] [] (zD yA (bW fx gr c m)) []:=by
 subst hk;have hlt:=zA yA m.tok;have hla:=zA iA m.args;have hld:=zA yA m.data;unfold bW;generalize hT:m.tok++UP fx gr c 0 m.args=tot;refine eM call140 λF hF=>?_
 (have zc1:=c1;(repeat' (first|refine qA ?_|refine xQ (λhc=>?_) (λhc=>?_)|refine wD (λhc=>?_)|(refine zE ?_;first|(refine yV ?_;refine jI 1001 tok rfl rfl rfl rfl rfl rfl (xH _ _ (λ_=>rfl)) rfl rfl rfl zB rfl rfl rfl ?_))|fail))<;>clear zc1)
 refine vW 1001 rfl ?_;refine kJ (m.args) [1001,1,3] [1,3] [1,3,16,17] [4,18,1,3,16,17] rfl (λi pre T U zs=>∃acc:List Int,(acc.length<=10+6*i/\∀post,m.args=pre++post->acc++UP fx gr c i post=tot)/\zs=⟨(4,.ref 1001 0 (acc.map yA).length)::(18,iA i)::T,(1001,.arr 1 (acc.map yA) true)::U⟩) ?_;(conv=>whnf);refine⟨?_,?_,?_⟩
 ·exact⟨m.tok,⟨zB,λpost h=>by rw[<-hT,h];rfl⟩,rfl⟩
 ·rintro i pre x post st hx hi ⟨acc,⟨q0,q1⟩,rfl⟩;have hy:=yP iA hx hi;have hlt2:=yF hx hi;have hxr:=ha x (xV hx);have hla2:=zA yA acc;have he:=jR x;have c2:=zPp x hxr.1 hxr.2;have hle:=zA yA (uZ x)
  have hpost:∀p,m.args=pre++[x]++p->p=post:=λp h=>by
   rw[hx,zXy]at h;simpa using h.symm
  have hT3:=q1 _ hx;clear q1 hT hx;by_cases hi2:i=fx/\gr≠0
  ·obtain⟨rfl,hg0⟩:=hi2;have hcl:=hc hg0
   have hq:(((m.args.map iA).length:Int)-(i:Int)).tdiv (gr:Int)=(c:Int):=by
    rw[hla,hcl,show(((i+c*gr:Nat):Int)-(i:Int))=(c:Int)*(gr:Int) by rw[yCe,yBh];omega];exact Int.mul_tdiv_cancel _ zB
   have hir:YI .i64 ((((m.args.map iA).length:Int)-(i:Int)).tdiv (gr:Int)):=by rw[hq];exact⟨zB,zB⟩
   have e:UP i gr c i (x::post)=[(c:Int)]++(uZ x++UP i gr c (i+1) post):=by rw[UP,zW9 ⟨rfl,hg0⟩]
   rw[e]at hT3;clear e hcl hc;generalize uZ x=ex at *;refine yO (wW c1 c2) ?_;refine⟨acc++[(c:Int)]++ex,⟨by simp;omega,λp h=>by rw[hpost p h,<-hT3];simp⟩,?_⟩;rw[zXf,zXf,<-hq];rfl
  ·have e:UP fx gr c i (x::post)=uZ x++UP fx gr c (i+1) post:=by rw[UP,zW8 hi2];rfl
   rw[e]at hT3;clear e hc;generalize uZ x=ex at *;by_cases hif:i=fx
   ·have hg0:gr=0:=by
     by_cases h:gr=0
     ·exact h
     ·exact absurd ⟨hif,h⟩ hi2
    refine yO (wW c1 c2) ?_;refine⟨acc++ex,⟨by simp;omega,λp h=>by rw[hpost p h,<-hT3];simp⟩,?_⟩;rw[zXf];rfl
   ·(refine yO (wW c1 c2) ?_)
    refine⟨acc++ex,⟨by simp;omega,λp h=>by rw[hpost p h,<-hT3];simp⟩,?_⟩;rw[zXf];rfl
 ·rintro st ⟨acc,⟨q0,q1⟩,rfl⟩;have e:=q1 [] zS;rw[show UP fx gr c m.args.length []=[]from rfl,zX8]at e;subst e;have hla2:=zA yA acc;clear q1 hT hc;by_cases hz:gr≠0/\m.args.length=fx
  ·rw[zW9 hz];obtain⟨hz1,hz2⟩:=hz;refine WW ?_;refine zH [] rfl rfl ?_ rfl
   show AV.sl false ((acc.map yA++[yA 0]++m.data.map yA).take (acc.map yA++[yA 0]++m.data.map yA).length)=_
   rw[zXe];unfold zD;rw[zXf,zXf,zXy];rfl
  ·rw[zW8 hz];by_cases hz1:gr=0
   ·(refine WW ?_)
    refine zH [] rfl rfl ?_ rfl
    show AV.sl false ((acc.map yA++m.data.map yA).take (acc.map yA++m.data.map yA).length)=_
    rw[zXe];unfold zD;rw[zXf];rfl
   ·have hz2:m.args.length≠fx:=λh=>hz ⟨hz1,h⟩
    refine WW ?_;refine zH [] rfl rfl ?_ rfl
    show AV.sl false ((acc.map yA++m.data.map yA).take (acc.map yA++m.data.map yA).length)=_
    rw[zXe];unfold zD;rw[zXf];rfl
theorem zB3 (fx gr:Nat) (c:Int):∀(l:List Int) (i:Nat),(UP fx gr c i l).length=((l.map uZ).flatten).length+(if i<=fx/\fx<i+l.length/\gr≠0 then 1 else 0)
 | [],i=>by
  rw[zW8 (by rintro⟨h1,h2,_⟩;simp at h2;omega)];rfl
 | x::l,i=>by
  have ih:=zB3 fx gr c l (i+1);rw[UP,zXb,zXb,ih,zYi,zZ9,zXb,zXl];by_cases h1:i=fx/\gr≠0
  ·rw[zW9 h1,zW8 zB,zW9 zB];simp only[zXl,zYa];omega
  ·rw[zW8 h1];by_cases h2:i+1<=fx/\fx<i+1+l.length/\gr≠0
   ·rw[zW9 h2,zW9 zB];simp only[zYa];omega
   ·rw[zW8 h2,zW8 zB];simp only[zYa];omega
theorem zKb {k:Int} {ar da:List Int} (h:SvM k ar da) (fx gr c:Nat):(bW fx gr c ⟨k,[],ar,da⟩).length<=200:=by
 have hz:=h.z;have h1:=zB3 fx gr c ar 0;unfold bW;dsimp only;rw[zZj,zXb,zXb,h1]
 split<;>split<;>simp only[zXl,zYa]<;>omega
theorem zTn {k:Int} {ar da:List Int} (h:SvM k ar da):zN 84 [zY ⟨k,[],ar,da⟩] [] (bA true) []:=by
 have c1:=zW0 k h.kk;have c2:=cY k;have hk:=h.kk;rw[zXj zB]at c2;have hz:=h.z;have hn:=h.n;have hl:=h.l;have hla:=zA iA ar;have hld:=zA yA da;have hda:da.length<=200:=by omega
 have hd:=h.d;have hp:=zKb h;have hkc:k=13∨k=14∨k=15∨k=16∨k=17∨k=18∨k=19∨k=20∨k=21:=by omega
 rcases h.g with⟨g1,g2⟩|⟨g1,gr,g2,g3,g4,g5⟩
 ·have hsd:(kM k).2.2.2.2= -1∨0<=(kM k).2.2.2.2:=by omega
  generalize (kM k).2.2.1=lo at *;generalize (kM k).2.2.2.1=hi at *;rw[g1,<-g2]at c1;have c3:=zAh k ar.length 0 lo hi _ c1 zB ⟨k,[],ar,da⟩ 0 rfl zS PU hn PU (λh=>absurd rfl h) zB;have hp:=hp ar.length 0 0;generalize bW ar.length 0 0 ⟨k,[],ar,da⟩=pl at *;have hlp:=zA yA pl;generalize (kM k).2.2.2.2=sd at *;clear hkc g1 hz h;unfold zY at *;dsimp only at*
  rcases hsd with hs|hs
  all_goals
   refine eM call84 λF hF=>?_
   refine yO (wW c1 c2) ?_;refine yB (ar) [1] [1] [1,97,98] [99,1,97,98] rfl (λi pre T U=>⟨(99,iA i)::T,U⟩) ?_;(conv=>whnf);refine⟨by rfl,?_,?_⟩
   ·intro i pre x post hx hi;have hy:=yP iA hx hi;have hlt2:=yF hx hi;have hxr:=hn x (xV hx);clear hx hn;refine WW ?_;rfl
   ·(refine zU c3 ?_)
    exact zK
 ·have hk2:k=18∨k=19:=by
   rcases hkc with rfl|rfl|rfl|rfl|rfl|rfl|rfl|rfl|rfl<;>first|exact .inl rfl|exact .inr rfl|(exfalso;revert g1;decide)
  obtain⟨gn,rfl⟩:∃gn:Nat,gr=(gn:Int):=⟨gr.toNat,zB⟩
  rcases hk2 with rfl|rfl
  ·have g2:(ar.length:Int)=1+3*(gn:Int):=g2;have g5:(gn:Int)<=16:=g5;have c1:zN 138 [iA 18] [] (.agg [iA 1,iA 3,iA 0,iA 16,iA 0]) []:=c1;have hd:(da.length:Int)=0:=hd.elim (λh=>absurd h xL) id;have c3:=zAh 18 1 3 0 16 0 c1 zB ⟨18,[],ar,da⟩ gn rfl zS PU hn PU (λ_=>by dsimp only;omega) zB;have hp:=hp 1 3 gn;generalize bW 1 3 gn ⟨18,[],ar,da⟩=pl at *;have hlp:=zA yA pl;have hm:(((ar.map iA).length:Int)-1).tmod 3=0:=by rw[zYn zB];omega
   clear hkc hz h;unfold zY at *;dsimp only at *;refine eM call84 λF hF=>?_
   refine yO (wW c1 c2) ?_;refine yB (ar) [1] [1] [1,97,98] [99,1,97,98] rfl (λi pre T U=>⟨(99,iA i)::T,U⟩) ?_;(conv=>whnf);refine⟨by rfl,?_,?_⟩
   ·intro i pre x post hx hi;have hy:=yP iA hx hi;have hlt2:=yF hx hi;have hxr:=hn x (xV hx);clear hx hn;refine WW ?_;rfl
   ·(refine zU c3 ?_)
    exact zK
  ·have g2:(ar.length:Int)=0+2*(gn:Int):=g2;have g5:(gn:Int)<=4:=g5;have c1:zN 138 [iA 19] [] (.agg [iA 0,iA 2,iA 0,iA 4,iA 0]) []:=c1;have hd:(da.length:Int)=0:=hd.elim (λh=>absurd h xL) id;have c3:=zAh 19 0 2 0 4 0 c1 zB ⟨19,[],ar,da⟩ gn rfl zS PU hn PU (λ_=>by dsimp only;omega) zB;have hp:=hp 0 2 gn;generalize bW 0 2 gn ⟨19,[],ar,da⟩=pl at *;have hlp:=zA yA pl;have hm:(((ar.map iA).length:Int)-0).tmod 2=0:=by rw[zYn zB];omega
   clear hkc hz h;unfold zY at *;dsimp only at *;refine eM call84 λF hF=>?_
   refine yO (wW c1 c2) ?_;refine yB (ar) [1] [1] [1,97,98] [99,1,97,98] rfl (λi pre T U=>⟨(99,iA i)::T,U⟩) ?_;(conv=>whnf);refine⟨by rfl,?_,?_⟩
   ·intro i pre x post hx hi;have hy:=yP iA hx hi;have hlt2:=yF hx hi;have hxr:=hn x (xV hx);clear hx hn;refine WW ?_;rfl
   ·(refine zU c3 ?_)
    exact zK
def owP (ins:List In) (b k:Nat):List In:=(List.range k).map λj=>ins.getD (b+j) default
theorem zKc (ins:List In) (b k:Nat):owP ins b (k+1)=owP ins b k++[ins.getD (b+k) default]:=by simp[owP,zZp]
def owI (c:Cf) (ins:List In) (a:Nat):List In:=owP ins (jM c.ags a).toNat (c.ags.getD a default).ses.toNat
def rpA (r:DR):AV:=zD aN r.R
def bgL (now:Int) (ds:List xP) (i:Nat):List xP:=WI (λ_ d=>ME d now) ds i
def SO (now:Int) (ds:List xP) (rF:Nat->DR) (i:Nat):List xP:=(List.range ds.length).map λk=>if k<i then(rF k).d else ME (ds.getD k default) now
def rpL (n:Nat) (rF:Nat->DR) (i:Nat):List AV:=(List.range n).map λk=>if k<i then rpA (rF k)else .s (.slice none 0 0)
def OP (rF:Nat->DR) (i:Nat):List En:=((List.range i).map λk=>(rF k).en).flatten
def UD (rF:Nat->DR) (i:Nat):List Int:=((List.range i).map λk=>(rF k).ks).flatten
theorem DJ (rF:Nat->DR) (i:Nat):OP rF (i+1)=OP rF i++(rF i).en:=by simp[OP,zZp]
theorem DK (rF:Nat->DR) (i:Nat):UD rF (i+1)=UD rF i++(rF i).ks:=by simp[UD,zZp]
theorem IN {rF:Nat->DR} (h:∀i,(rF i).en.length<=2000):∀i,(OP rF i).length<=2000*i
 |0=>zXp _
 |i+1=>by
  have:=IN h i;have:=h i;rw[DJ,zXb];omega
theorem IO {rF:Nat->DR} (h:∀i,(rF i).ks.length<=2000):∀i,(UD rF i).length<=2000*i
 |0=>zXp _
 |i+1=>by
  have:=IO h i;have:=h i;rw[DK,zXb];omega
theorem eE {α:Type} (n i:Nat) (f g:Nat->α) (hi:i<n):((List.range n).map λk=>if k<i+1 then f k else g k)=((List.range n).map λk=>if k<i then f k else g k).set i (f i):=by
 apply zYp;intro j;rw[zZi,zXd,zXd,zXa,zYu];by_cases hj:j<n
 ·rw[zX6 hj];by_cases h:i=j
  ·subst h;rw[zW9 rfl,zW9 hi];simp
  ·rw[zW8 h];by_cases h2:j<i
   ·simp[h2,show j<i+1 by omega]
   ·simp[h2,show¬j<i+1 by omega]
 ·rw[zX0 wQ];by_cases h:i=j
  ·omega
  ·simp[h]
theorem cT {α:Type} (n i:Nat) (f g:Nat->α) (hi:i<n):((List.range n).map λk=>if k<i then f k else g k)[i]? =some (g i):=by
 rw[zXd,zX6 hi];simp
theorem eG {α:Type} (n:Nat) (f g:Nat->α):((List.range n).map λk=>if k<n then f k else g k)=(List.range n).map f:=by
 apply yAp;intro k hk;rw[zW9 (zXz.1 hk)]
theorem DL {l:List Ag} (h:IW l) {i j:Nat} (hij:i<=j) (hj:j<=l.length):jM l i<=jM l j:=by
 induction j with
 |zero=>rw[show i=0 by omega];exact zZf _
 | succ j ih=>
  by_cases h1:i=j+1
  ·rw[h1];exact zZf _
  ·have h2:=ih zB zB;have h3:=h.at (i:=j) zB
   show jM l i<=jM l j+(l.getD j default).ses
   omega
theorem zD4 (c:Cf) (hw:IW c.ags) (now:Int) (n0:0<=now) (n1:now<=1073741824) (ds:List xP) (hdl:ds.length=c.ags.length) (hI:∀i,i<ds.length->uV c (ds.getD i default)) (ins:List In) (hil:(ins.length:Int)=jM c.ags c.ags.length)
  (rF:Nat->DR) (hen:∀i,(rF i).en.length<=2000) (hks:∀i,(rF i).ks.length<=2000) (hr:∀i,i<ds.length->zN 110 [wT c,zJ (ME (ds.getD i default) now),zD jQ (owI c ins i),iA now] [] (drT (rF i)) [])
  (A B C:List AV) (a2 a3 a4:Nat) (vw:List Vw):
  zN 62 [YC c false now (.ref 1011 0 (ds.map zJ).length) (.ref 1012 0 a2) (.ref 1013 0 a3) (.ref 1014 0 a4) (zD vL vw),zD jQ ins] [(1011,.arr 17 (ds.map zJ) false),(1012,.arr 5 A false),(1013,.arr 3 B false),(1014,.arr 1 C false)]
   (.tup [.sl false ((List.range ds.length).map λk=>rpA (rF k)),zD jZ (OP rF ds.length),zD iA (UD rF ds.length)]) [(1011,.arr 17 ((SO now ds rF ds.length).map zJ) false),(1012,.arr 5 A false),(1013,.arr 3 B false),(1014,.arr 1 C false)]:=by
 have hdm:=zA zJ ds;have hal:=zA vH c.ags;have hn4:=hw.1;have hbl:∀i,(bgL now ds i).length=ds.length:=λi=>vJ _ _ _
 have hbm:∀i,((bgL now ds i).map zJ).length=ds.length:=λi=>by rw[zXa,hbl]
 have hb0:bgL now ds 0=ds:=jP _ _;unfold YC;refine eM call62 λF hF=>?_
 refine WW ?_;refine zP (ds.length) [1011,2,3,1012,1013,1014] [2,3,1012,1013,1014] [2,3,21,57] [22,2,3,21,57] rfl (λi T U=>⟨(22,iA i)::T,(1011,.arr 17 ((bgL now ds i).map zJ) false)::U⟩) ?_;(conv=>whnf);refine⟨by(rw[hb0];rfl),?_,?_⟩
 ·intro i hi
  have hy:((bgL now ds i).map zJ)[i]? =some (zJ (ds.getD i default)):=by
   rw[zXd];unfold bgL;rw[uX,zW9 hi,zW8 (yBg i)];rfl
  have e:(bgL now ds (i+1)).map zJ=((bgL now ds i).map zJ).set i (zJ (ME (ds.getD i default) now)):=by unfold bgL;rw[qO _ _ _ _ hi]
  have kb:=zF8 (hI i hi) now;have hxl:=hbm i;rw[e];clear e hr hI hb0;generalize ME (ds.getD i default) now=d2 at *;generalize ds.getD i default=d1 at *;generalize (bgL now ds i).map zJ=X at *;refine zU kb ?_;rfl
 ·have hbn:(bgL now ds ds.length).map zJ=(SO now ds rF 0).map zJ:=by
   congr 1
   unfold SO;apply zYp;intro j;unfold bgL;rw[uX,zXd];by_cases hj:j<ds.length
   ·rw[zW9 hj,zW9 hj,zX6 hj];simp
   ·rw[zW8 hj,zX0 wQ];rfl
  rw[hbn];refine WW ?_;have hmin:min (ds.length:Int) (c.ags.length:Int)=(ds.length:Int):=by rw[hdl];exact yDd _
  rw[hdm,hal,hmin]
  have hr0:rpL ds.length rF 0=List.replicate ds.length (.s (.slice none 0 0)):=by
   unfold rpL;apply zYp;intro j;rw[zXd,zY4];by_cases hj:j<ds.length
   ·rw[zX6 hj,zW9 hj];simp
   ·rw[zW8 hj,zX0 wQ];rfl
  have hrl:∀i,(rpL ds.length rF i).length=ds.length:=λi=>by unfold rpL;rw[zXa,zYu]
  have htl:∀i,((SO now ds rF i).map zJ).length=ds.length:=λi=>by unfold SO;rw[zXa,zXa,zYu]
  refine xG 9 1042 3 rfl rfl rfl ?_;refine xG 10 1043 1 rfl rfl rfl ?_;refine zP (ds.length) [41,1011,1042,1043,2,3,1012,1013,1014] [2,3,1012,1013,1014] [2,3,8,49,57] [9,10,50,2,3,8,49,57] rfl (λi T U=>⟨(9,.ref 1042 0 ((OP rF i).map jZ).length)::(10,.ref 1043 0 ((UD rF i).map iA).length)::(50,iA i)::T,(41,.arr 1 (rpL ds.length rF i) false)::(1011,.arr 17 ((SO now ds rF i).map zJ) false)::(1042,.arr 3 ((OP rF i).map jZ) true)::(1043,.arr 1 ((UD rF i).map iA) true)::U⟩) ?_;(conv=>whnf);refine⟨by(rw[hr0];rfl),?_,?_⟩
  ·intro i hi;have hic:i<c.ags.length:=by omega
   have hy:((SO now ds rF i).map zJ)[i]? =some (zJ (ME (ds.getD i default) now)):=by
    rw[zXd];unfold SO;rw[cT _ _ _ _ hi];rfl
   have e1:(SO now ds rF (i+1)).map zJ=((SO now ds rF i).map zJ).set i (zJ (rF i).d):=by
    unfold SO;rw[eE _ _ _ _ hi,zZh]
   have e2:rpL ds.length rF (i+1)=(rpL ds.length rF i).set i (rpA (rF i)):=by
    unfold rpL;rw[eE _ _ _ _ hi]
   have hyr:(rpL ds.length rF i)[i]? =some (.s (.slice none 0 0)):=by
    unfold rpL;exact cT _ _ _ _ hi
   have hxl:=htl i;have hrll:=hrl i;have hel:=IN hen i;have hkl:=IO hks i;have hel1:=hen i;have hkl1:=hks i;have hem:=zA jZ (OP rF i);have hkm:=zA iA (UD rF i);have hem1:=zA jZ (rF i).en;have hkm1:=zA iA (rF i).ks;have ks:=zAm c i;have kd:=hr i hi;have ht:=zEk c hw i hic;rw[e1,e2,DJ,DK,zXf,zXf];clear e1 e2 hr hI hb0 hr0 hbn;unfold drT tkT at kd
   change zN 110 [_,_,_,_] [] (.tup [_,rpA (rF i),_,_]) []at kd
   generalize ME (ds.getD i default) now=D1 at *;generalize (rF i).d=D2 at *;rw[show rpA (rF i)= .sl false ((rF i).R.map aN)from rfl]at *; generalize (rF i).R.map aN=R2 at *;generalize (SO now ds rF i).map zJ=X at *;generalize rpL ds.length rF i=Y at *;generalize (OP rF i).map jZ=En1 at *;generalize (UD rF i).map iA=Ks1 at *;rw[show zD jZ (rF i).en= .sl false ((rF i).en.map jZ)from rfl,show zD iA (rF i).ks= .sl false ((rF i).ks.map iA)from rfl]at kd;unfold zD at kd;unfold zJ wL at hy kd⊢;unfold zCk at ks ht;unfold wT at ks kd;refine zU ks ?_;obtain⟨bs,hbs⟩:∃bs:Nat,jM c.ags i=(bs:Int):=⟨(jM c.ags i).toNat,by have:=kY hw i zB;omega⟩;obtain⟨N,hN⟩:∃N:Nat,(c.ags.getD i default).ses=(N:Int):=⟨(c.ags.getD i default).ses.toNat,by have:=hw.at (i:=i) zB;omega⟩
   have hbd:bs+N<=ins.length:=by
    have:=DL hw (show i+1<=c.ags.length by omega) (zXc _);have h2:jM c.ags (i+1)=jM c.ags i+(c.ags.getD i default).ses:=rfl;omega
   have hN2:=hw.at (i:=i) zB;have hL:LH c i=(List.range N).map λk=>[plA i k (bs+k)]:=by unfold LH;rw[hbs,hN];rfl
   rw[show owI c ins i=owP ins bs N by unfold owI;rw[hbs,hN];rfl]at kd;rw[hN]at hN2;have hil2:=zA jQ ins;refine vT 12 0 1041 2 rfl rfl rfl rfl rfl ?_
   refine vO hF ht rfl [2,3,12,41,1011,1012,1013,1014,1041,1042,1043] [2,3,8,9,10,11,12,49,50] rfl rfl rfl rfl rfl rfl rfl rfl rfl (λk ys h=>?_) (λk=>[(2,.box [zD wP c.js,zD vH c.ags,iA c.per,iA c.cap,iA c.hold,iA c.lock,bA false,iA now,.ref 1011 0 ds.length,.ref 1012 0 a2,.ref 1013 0 a3,.ref 1014 0 a4,zD vL vw]),(3,.box [zD jQ ins]),(12,.box [.ref 1041 0 ((owP ins bs k).map jQ).length]),(41,.arr 1 Y false),(1011,.arr 17 X false),(1012,.arr 5 A false),(1013,.arr 3 B false),(1014,.arr 1 C false),(1041,.arr 2 ((owP ins bs k).map jQ) true),(1042,.arr 3 En1 true),(1043,.arr 1 Ks1 true)]) (λ_=>True)
    (T:=[(2,.ptr 2 0 0),(3,.ptr 3 0 0),(8,.ref 41 0 ds.length),(9,.ref 1042 0 En1.length),(10,.ref 1043 0 Ks1.length),(11,iA i),(12,.ptr 12 0 0),(49,iA ds.length),(50,iA i)]) rfl trivial (λk ys y hys hI F1 h1 h2=>?_) (λhI=>?_)
   ·rw[hL,zXd,zXn]at h;obtain⟨x,_,rfl⟩:=h;rfl
   ·have hk:k<N:=by
     have:=(zXv.1 hys).1;rw[hL,zXa,zYu]at this;exact this
    rw[hL,zXd,zX6 hk]at hys;obtain rfl:=zZr hys;have hyi:=zM jQ ins (bs+k) zB;have hol:((owP ins bs k).map jQ).length=k:=by unfold owP;rw[zXa,zXa,zYu]
    rw[zKc,zXf];generalize (owP ins bs k).map jQ=O at *;generalize ins.getD (bs+k) default=x at *;rw[show [x].map jQ=[.agg [bA x.opn,zD wI x.its]]from rfl];unfold jQ at hyi;refine WW ?_;refine⟨rfl,λF2 g1 g2=>?_⟩;refine WW ?_;exact⟨rfl,trivial⟩
   ·rw[show(LH c i).length=N by rw[hL,zXa,zYu]];generalize owP ins bs N=O at*
    show uC _ _ _ _ ⟨_,_⟩ _
    refine kK [2,3,12,41,1011,1012,1013,1014,1042,1043] [2,3,8,9,10,11,12,49,50] rfl ?_
    (conv=>whnf)
    simp only[zYf,zXe];clear ks ht hL hN hN2;refine zU kd ?_;rfl
  ·rw[rpL,eG];refine WW ?_;refine zH [1011,1012,1013,1014] rfl rfl ?_ rfl
   show AV.tup [.sl false (List.take ds.length (List.map (λk=>rpA (rF k)) (List.range ds.length))),.sl false (List.take ((OP rF ds.length).map jZ).length ((OP rF ds.length).map jZ)),.sl false (List.take ((UD rF ds.length).map iA).length ((UD rF ds.length).map iA))]=_
   rw[zXk (by rw[zXa,zYu];exact zXc _),zXe,zXe];rfl
end Av
end Go.Proofs.YtmamjhmoegjapaaGreat
