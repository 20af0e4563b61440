/- law29: ViewMasks. -/
import Derived.Test.YteajjdidebfcjaaGreatV27
namespace Go.Proofs.YteajjdidebfcjaaGreat
namespace Av
set_option linter.all false
set_option maxRecDepth 4000
set_option maxHeartbeats 8000000
def by_row {w:World} {a:Option Addr} {len cap:Nat} {zs:List Int}
  (h:(a=none/\len=0/\cap=0/\zs=[])∨∃x,a=some x/\len<=cap/\cap<=maxLen/\zs.length=cap/\(∀i,i<zs.length->w.cell? (x.add i)=some (.int .u8 (zs.getD i 0)))/\∀n∈zs,(Lit.int .u8 n).wf=true):BY (zs.take len):=by
 rcases h with⟨rfl,rfl,rfl,rfl⟩|⟨x,rfl,_,_,_,_,h5⟩
 ·intro y hy;simp at hy
 ·intro y hy;have h6:=h5 y (zZl hy);unfold Lit.wf at h6;rw[zYg,zX9,zX9]at h6;have e1:IntKind.u8.min=0:=by decide
  have e2:IntKind.u8.max=255:=by decide
  omega
def vmR (p q:List Int×Dk):Prop:=∃(k n:Int) (ar da f:List Int) (e:Int) (d3:Dk),(nx p.2 4=0/\k=17∨nx p.2 4=1/\k=21∨nx p.2 4=2/\k=14∨nx p.2 4=3/\k=22)/\n=nx (ad p.2) 1048576/\ar=(if k=14 then [n,7]else [n])/\
 (k=17∨k=21->zO 27 [.ptr 1000 0 0,iA 20] [(1000,PD (ad (ad p.2)))] (zD yA da) [(1000,PD d3)])/\(¬(k=17∨k=21)->da=[]/\d3=ad (ad p.2))/\zO 28 [yF ⟨k,[],ar,da⟩] [] (.tup [zD yA f,iA e]) []/\q=(p.1++f,d3)/\BY f/\f.length<=50
def zU1 (p:List Int×Dk):∃q,vmR p q:=by
 have b1:=wW p.2 4 zB;have b2:=wW (ad p.2) 1048576 zB;have kb:=zH0 (ad (ad p.2)) 20 zB zB;have b3:=wW (ad (ad p.2)) (20+1) zB;have hy:=AQ (ad (ad (ad p.2))) (nx (ad (ad p.2)) (20+1)).toNat;have hn:JU [nx (ad p.2) 1048576]:=λx hx=>by rw[zZd.1 hx];omega
 have hn2:JU [nx (ad p.2) 1048576,7]:=λx hx=>by
  simp only[zZg,yBj,yCo]at hx;omega
 have hc:nx p.2 4=0∨nx p.2 4=1∨nx p.2 4=2∨nx p.2 4=3:=by omega
 rcases hc with h|h|h|h
 ·obtain⟨f,e,f1,f2,f3⟩:=YS 17 1 (-1) zV (QE 17 zV) zV zV [nx (ad p.2) 1048576] (dE (ad (ad (ad p.2))) (nx (ad (ad p.2)) (20+1)).toNat).1 hn Z hy.2.2 zB;exact⟨_,17,_,_,_,f,e,_,.inl ⟨h,rfl⟩,rfl,rfl,λ_=>kb,λh=>absurd (.inl Z) h,f3,rfl,f1,f2⟩
 ·obtain⟨f,e,f1,f2,f3⟩:=YS 21 1 (-1) zV (QE 21 zV) zV zV [nx (ad p.2) 1048576] (dE (ad (ad (ad p.2))) (nx (ad (ad p.2)) (20+1)).toNat).1 hn Z hy.2.2 zB;exact⟨_,21,_,_,_,f,e,_,.inr (.inl ⟨h,rfl⟩),rfl,rfl,λ_=>kb,λh=>absurd (.inr Z) h,f3,rfl,f1,f2⟩
 ·obtain⟨f,e,f1,f2,f3⟩:=YS 14 2 0 zV (QE 14 zV) zV zV [nx (ad p.2) 1048576,7] [] hn2 Z jP zW;exact⟨_,14,_,_,_,f,e,_,.inr (.inr (.inl ⟨h,rfl⟩)),rfl,rfl,λh=>by omega,λ_=>⟨rfl,rfl⟩,f3,rfl,f1,f2⟩
 ·obtain⟨f,e,f1,f2,f3⟩:=YS 22 1 0 zV zFs zV zV [nx (ad p.2) 1048576] [] hn Z jP zW;exact⟨_,22,_,_,_,f,e,_,.inr (.inr (.inr ⟨h,rfl⟩)),rfl,rfl,λh=>by omega,λ_=>⟨rfl,rfl⟩,f3,rfl,f1,f2⟩
theorem masks_c (raw:List Int) (h0:raw.length<=9223372036854775807) (hb0:BY raw) (l1:List Int) (h1:l1.length<=9223372036854775807) (v1 v2:Int) (hv2:(Lit.int .i64 v2).wf=true):zO 5 [zD yA raw,zD iA l1,iA v1,iA v2] [] (bA true) []:=by
 have kf:=zNc raw h0;have ka:=zDy;have hm0:=zA yA raw;have hm1:=zA iA l1
 have hv2: -9223372036854775808<=v2/\v2<=9223372036854775807:=by
  unfold Lit.wf at hv2;rw[zYg,zX9,zX9]at hv2;have e1:IntKind.i64.min= -9223372036854775808:=by decide
  have e2:IntKind.i64.max=9223372036854775807:=by decide
  omega
 cases hf:decide (raw.length<=600)<;>rw[hf]at kf
 ·(refine eM Tryz.call5 λF hF=>?_)
  refine EV (wZ kf ka) ?_;exact zJ
 have hr6:=yB8 hf;have kn1:=zQu l1 h1;obtain⟨d0,hd0⟩:∃d0:Dk,d0=⟨l1,0,zYl _,h1⟩:=⟨_,rfl⟩;have n6:=vZ d0 6 zB zB;have b6:=wW d0 6 zB;obtain⟨f,f0,hf9⟩:=zH3 (λ_ (_:List Int×Dk)=>True) (λ_ p q=>vmR p q) (λi p _=>(zU1 p).imp λq h=>⟨h,trivial⟩) ([],ad d0) trivial
 have hfb:∀i,BY (f i).1/\(f i).1.length<=50*i:=λi=>by
  induction i with
  |zero=>rw[f0];exact⟨jP,zX7 _⟩
  |succ i ih=>
   obtain⟨k,n,ar,da,fr,e,d3,_,_,_,_,_,_,hq,hy,hl⟩:=(hf9 i).2;rw[hq];exact⟨λx hx=>(zYy.1 hx).elim (ih.1 x) (hy x),by have:=ih.2;dsimp only;rw[zX4];omega⟩
 rw[<-hd0]at kn1;clear hd0;generalize nx d0 6=z at *;obtain⟨K,rfl⟩:∃K:Nat,z=(K:Int):=⟨z.toNat,zB⟩;generalize ad d0=d1 at *;refine eM Tryz.call5 λF hF=>?_
 refine yR (fQ kf kn1 n6) ?_;refine xA 10 1001 1 Z Z Z ?_;refine zS (K) [1000,1001] [] [0,2,3,9] [10,11,0,2,3,9] Z (λi T U=>⟨(10,.ref 1001 0 ((f i).1.map yA).length)::(11,iA ((K:Int)-i))::T,(1000,PD (f i).2)::(1001,.arr 1 ((f i).1.map yA) true)::U⟩) ?_;(conv=>whnf);refine⟨by(rw[f0,show(K:Int)-(0:Nat)=K by omega];rfl),?_,?_⟩
 ·intro i hi;obtain⟨hfy,hfl⟩:=hfb i;have hfm:=zA yA (f i).1;obtain⟨k,n,ar,da,fr,e,d3,hk,hn,har,kb1,kb2,kfr,hq,hy,hl⟩:=(hf9 i).2;rw[hq];have n4:=vZ (f i).2 4 zB zB;have n5:=vZ (ad (f i).2) 1048576 zB zB;have b5:=wW (ad (f i).2) 1048576 zB;rw[<-hn]at n5 b5;clear hf9 hfb f0 hq hn;dsimp only;rw[zYd,show(K:Int)-((i+1:Nat):Int)=(K:Int)-i-1 by omega];generalize (f i).1.map yA=X at *;generalize nx (f i).2 4=u at *;generalize (f i).2=dd at *;generalize ad dd=dd1 at *;generalize ad dd1=dd2 at *;have w0:0<(K:Int)-i:=by omega
  have w1:(K:Int)-i<=6:=by omega
  generalize (K:Int)-i=w at *;have hfrm:=zA yA fr
  rcases hk with⟨rfl,rfl⟩|⟨rfl,rfl⟩|⟨rfl,rfl⟩|⟨rfl,rfl⟩
  ·have kb:=kb1 (.inl Z);rw[zX2 zV]at har;subst har;have kfr:zO 28 [.agg [iA 17,.sl false [],.sl false [iA n],zD yA da]] [] (.tup [zD yA fr,iA e]) []:=kfr;clear kb1 kb2
   (have zc1:=n4;have zc2:=n5;have zc3:=kb;have zc4:=kfr;have zf1:=(⟨⟩:FzD 28 [1000,1001] [0,2,3,9,10,11,56]);refine WW ?_;clear zc1 zc2 zc3 zc4 zf1)
   rfl
  ·have kb:=kb1 (.inr Z);rw[zX2 zV]at har;subst har;have kfr:zO 28 [.agg [iA 21,.sl false [],.sl false [iA n],zD yA da]] [] (.tup [zD yA fr,iA e]) []:=kfr;clear kb1 kb2
   (have zc1:=n4;have zc2:=n5;have zc3:=kb;have zc4:=kfr;have zf1:=(⟨⟩:FzD 28 [1000,1001] [0,2,3,9,10,11,56]);refine WW ?_;clear zc1 zc2 zc3 zc4 zf1)
   rfl
  ·obtain⟨rfl,rfl⟩:=kb2 zB;rw[zX3 Z]at har;subst har;have kfr:zO 28 [.agg [iA 14,.sl false [],.sl false [iA n,iA 7],.sl false []]] [] (.tup [zD yA fr,iA e]) []:=kfr;clear kb1 kb2
   (have zc1:=n4;have zc2:=n5;have zc3:=kfr;have zf1:=(⟨⟩:FzD 28 [1000,1001] [0,2,3,9,10,11,56]);(repeat' (first|refine MF ?_|apply xL|apply wB|intro hc|(refine zE ?_;first|(refine xR ?_;refine wJ [1000,1001,12,38] [0,2,3,9,10,11,12,45] Z ?_;(conv=>whnf);refine bV tok Z Z ?_))|refine SB ?_|fail))<;>clear zc1 zc2 zc3 zf1)
   rfl
  ·obtain⟨rfl,rfl⟩:=kb2 zB;rw[zX2 zV]at har;subst har;have kfr:zO 28 [.agg [iA 22,.sl false [],.sl false [iA n],.sl false []]] [] (.tup [zD yA fr,iA e]) []:=kfr;clear kb1 kb2
   (have zc1:=n4;have zc2:=n5;have zc3:=kfr;have zf1:=(⟨⟩:FzD 28 [1000,1001] [0,2,3,9,10,11,56]);refine WW ?_;clear zc1 zc2 zc3 zf1)
   rfl
 ·obtain⟨hfy,hfl⟩:=hfb K;generalize (f K).1=B at *;clear hf9 hfb f0 kf kn1 n6;have hBm:=zA yA B;obtain⟨s,hs,hsl,ks⟩:=zEg B hfy zB v1 v2 hv2;have hsm:=zA yA s
  have h80:BY [128,0]:=λx hx=>by
   simp only[zZg,yBj,yCo]at hx;omega
  have ke:=KQ 17 [128,0] zV zV h80 zV;have hel:=VZ 17 [128,0]
  have hey:BY (YB 17 [128,0]):=by
   obtain⟨q,e,hq,_,_⟩:=KY 17 [128,0] zV zV h80 zV;rw[BU (ID _).1]at e;rw[show YB 17 [128,0]=q from e.symm];exact hq
  rw[show zD yA [128,0]= .sl false [yA 128,yA 0]from Z]at ke;rw[show([128,0]:List Int).length=2 from Z]at hel;generalize YB 17 [128,0]=F9 at *;have hF9:=zA yA F9;have hBF:=zA yA (B++F9);have hBR:=zA yA (B++raw);rw[zYd]at hBF hBR;have eS:∀x,zD yA x= .sl false (x.map yA):=λ_=>rfl
  rw[eS,eS]at ks;refine uS [] [0,2,3,10,11] Z ?_
  (conv=>whnf)
  (try simp only[zYq,zX6])
  (have zc1:=ke;have zc2:=ks;(repeat' (first|refine MF ?_|apply xL|apply wB|intro hc|(refine zE ?_;first|(refine xR ?_;first|refine bV tok Z Z ?_|(refine wJ [] [0,68,69,73,77,81] Z ?_;(conv=>whnf);(try simp only[zYq,zX6]);refine bV tok Z Z ?_))|(refine yD ?_;first|(refine kR 1002 tok Z Z Z Z Z Z (zN _ _ (λ_=>rfl)) Z Z Z zB Z Z Z ?_;refine wJ [1002] [0,10,15,68,69,73,75] Z ?_;(conv=>whnf);(try simp only[zYq,zX6]))|refine kR 1003 tok Z Z Z Z Z Z (zN _ _ (λ_=>rfl)) Z Z Z zB Z Z Z ?_))|refine SB ?_|fail))<;>clear zc1 zc2)
  rw[<-zYd,<-zYd]
  have hL:∀x∈[raw,B,s,B++F9,B++raw],BY x/\x.length<=100000:=λx hx=>by
   have ha:∀a b:List Int,BY a->BY b->BY (a++b):=λa b h1 h2 x hx=>(zYy.1 hx).elim (h1 x) (h2 x)
   simp only[zZg,yBj,yCo]at hx
   rcases hx with rfl|rfl|rfl|rfl|rfl
   ·exact⟨hb0,zB⟩
   ·exact⟨hfy,zB⟩
   ·exact⟨hs,zB⟩
   ·exact⟨ha _ _ hfy hey,by rw[zX4];omega⟩
   ·exact⟨ha _ _ hfy hb0,by rw[zX4];omega⟩
  have h5: [raw,B,s,B++F9,B++raw].length=5:=rfl;refine jJ (st':=⟨[(82,.sl false ([raw,B,s,B++F9,B++raw].map (zD yA))),(83,iA (5:Nat)),(84,iA (0:Nat))],[]⟩) [] [82,83,84] Z Z ?_;generalize [raw,B,s,B++F9,B++raw]=L at *;have hLm:=zA (zD yA) L;clear ks ke eS;refine zS (5) [] [] [82,83] [84,82,83] Z (λi T U=>⟨(84,iA i)::T,U⟩) ?_;(conv=>whnf);refine⟨by rfl,?_,?_⟩
  ·intro i hi;have hyx:=zM (zD yA) L i zB
   obtain⟨x1,x2⟩:=hL (L.getD i default) (by
    rw[zYc,zYk zB]
    exact yAr _)
   generalize L.getD i default=u at *;have g1:=zF3 u x1 zB;have g2:=zDx u x1 x2;have f2:=bW (BX u);have hum:=zA yA u;have eS:∀x,zD yA x= .sl false (x.map yA):=λ_=>rfl
   rw[eS]at hyx g1 g2;rw[eS]at g1 g2;clear eS hL;generalize BX u=z at *;generalize L.map (zD yA)=X at *;refine yR (wZ g1 g2) ?_
   all_goals (first|rfl|(exfalso;first|(simp[bW]at hc;done)|(revert hc;simp[bW];done)))
  ·(refine zY ka ?_)
   exact zJ
end Av
end Go.Proofs.YteajjdidebfcjaaGreat
