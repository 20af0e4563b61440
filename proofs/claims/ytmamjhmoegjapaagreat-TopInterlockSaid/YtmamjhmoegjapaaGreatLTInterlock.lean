/- top: TopInterlock. -/
import Derived.Test.YtmamjhmoegjapaaGreatP32
namespace Go.Proofs.YtmamjhmoegjapaaGreat
namespace Av
set_option linter.unusedSimpArgs false
set_option linter.unusedVariables false
set_option maxRecDepth 4000
set_option maxHeartbeats 8000000
theorem interlock_c (l1:List Int) (h1:l1.length<=9223372036854775807):zN 8 [zD iA l1] [] (bA true) []:=by
 have kf:=zCa l1 h1;have ka:=zLh;have hm1:=zA iA l1
 cases hf:decide (l1.length<=300)<;>rw[hf]at kf
 ·(refine eM Tryz.call8 λF hF=>?_)
  refine LO (wZ kf ka) ?_;exact zJ
 have kn1:=OF l1 h1;have kc:=cQ ⟨l1,0,zYe _,h1⟩ 63;have hv:=MV ⟨l1,0,zYe _,h1⟩ 63 zB;generalize XU ⟨l1,0,zYe _,h1⟩ 63=c at *;generalize cfD ⟨l1,0,zYe _,h1⟩ 63=e0 at *;obtain⟨l,d',hl,ks⟩:=YO c hv.w hv.ag false e0;have hl1:=hl.1;have kv:=zPx c hv l zB hl.2;rw[zYb zB]at kv;have hch:=λ(k:Nat) (hk:k<c.js.length)=>KI (k:=k) l (VA c hv) hl.2 (by show(0:Int)+_<_;omega) hk
 have hVl:=GA l (wS c);generalize CT (wS c) l=Vs at *;have hVm:=zA vsA Vs;have hjl:=zA wH c.js;have hj4:=hv.j;unfold wP at *;refine eM Tryz.call8 λF hF=>?_
 refine yQ (zt5 kf kn1 kc ks kv) ?_;refine zY (c.js) [] [] [5,33,34] [35,5,33,34] rfl (λi pre T U=>⟨(35,iA i)::T,U⟩) ?_;(conv=>whnf);refine⟨by rfl,?_,?_⟩
 ·intro k pre0 j post0 hx0 hk0;have hyj:=yI wH hx0 hk0;have hkl:=yB hx0 hk0;have J:=hv.jv j (xX hx0);have ej:c.js.getD k default=j:=by rw[hx0,<-hk0];simp
  have V0:=hch k hkl;rw[show(wS c).y.sg=c.js.map kS from rfl,show(wS c).y.c=c from rfl,ej]at V0
  have eg:(c.js.map kS).getD k default=kS j:=by
   rw[zX5,zX4,hx0,<-hk0];simp
  rw[eg]at V0;clear hch hx0 eg ej;have hjn:=J.n;have hlp:=zA wU j.ph;have hjc:=J.c;have hlc:=zA iA j.cf;unfold wH at hyj;have e0:(List.replicate j.ph.length (0:Int)).map iA=List.replicate (j.ph.map wU).length (iA 0):=by rw[hlp];exact yBi
  refine WW ?_;refine qM (Vs) [43,47,7] [7] [5,6,7,8,9,33,34,35,48,49] [50,5,6,7,8,9,33,34,35,48,49] rfl (λi pre T U zs=>∃(s:Sg) (co si:List Int),(TiI j s co si pre.length/\ViC j k c.js.length s (Vs.drop pre.length)/\CV j s.c)/\zs=⟨(50,iA i)::T,(43,.arr 1 (co.map iA) false)::(47,.arr 1 (si.map iA) false)::U⟩) ?_;(conv=>whnf);refine⟨?_,?_,?_⟩
  ·exact⟨kS j,List.replicate j.ph.length 0,List.replicate j.ph.length 0,⟨zP0 j,V0,FN J⟩,by rw[e0];rfl⟩
  ·rintro i pre v post st hx hi ⟨s,co,si,⟨H,V,C⟩,rfl⟩;have hyv:=yI vsA hx hi;have hlt:=yB hx hi;rw[show Vs.drop pre.length=v::post by rw[hx,List.drop_left]]at V;obtain⟨vl,s',sv,R,C',ev,V'⟩:=V;have hpl:pre.length<=160:=by have:=zY0 List.length hx;rw[zX3]at this;omega
   have hpost:Vs.drop (pre++[v]).length=post:=by
    rw[hx,show pre++v::post=(pre++[v])++post by simp,List.drop_left]
   have hppl:(pre++[v]).length=pre.length+1:=by simp
   have hyk:=zM vM v k zB;rw[ev]at hyk;have hvl:=zA vM v;obtain⟨f1,f2,f3⟩:=zW2 (j:=j) (s:=s') (v:=sv);have N:=zP1 J C zB H R;have S:=λ(p:Nat) (hp:p<j.ph.length)=>(zC6 J C zB H R hp).1
   have hcl:=H.cl;have hsl:=H.sl;have hHc:=H.c;have hHb:=H.b;have hset:=zUv J C';clear H ev R C hx;generalize RO j s' sv=w at *;obtain⟨wf,wo,wco,wcn⟩:=w;dsimp only at f1 f2 f3;subst f1;have hwl:=zA iA wco;unfold vsA zD at hyv;unfold vM zD at hyk;dsimp only at hyk;have hsb:=IL (λp=>gA s' p != 0) j.ph.length zB;have hp8:=zVg (n:=j.ph.length) zB;have ccl:=zG1 j.cf zB (gB (λp=>gA s' p != 0) j.ph.length) zB hset;rw[hcl,hsl,<-f2]at N;refine WW ?_;refine zP (wco.length) [43,47,7] [7] [5,6,7,8,9,11,33,34,35,48,49,50,74,75] [12,76,5,6,7,8,9,11,33,34,35,48,49,50,74,75] rfl (λi T U=>⟨(12,iA (gB (λp=>gA s' p != 0) i))::(76,iA i)::T,(43,.arr 1 ((dR (λp _=>gA s' p) co i).map iA) false)::(47,.arr 1 ((dR (λp x=>siO s s' p x) si i).map iA) false)::U⟩) ?_;(conv=>whnf);refine⟨by(rw[kN,kN];rfl),?_,?_⟩
   ·intro p hp;have hyw:=zM iA wco p hp;rw[f3 p zB]at hyw;have hyc:((dR (λp _=>gA s' p) co p).map iA)[p]? =some (iA (gA s p)):=by rw[zX4,vO,zX1 zB,zX0 (yBk p),hHc p zB];rfl
    have hys:((dR (λp x=>siO s s' p x) si p).map iA)[p]? =some (iA (si.getD p default)):=by rw[zX4,vO,zX1 zB,zX0 (yBk p)];rfl
    have lc:((dR (λp _=>gA s' p) co p).map iA).length=(j.ph.map wU).length:=by rw[zX2,wL,hcl,hlp]
    have ls:((dR (λp x=>siO s s' p x) si p).map iA).length=(j.ph.map wU).length:=by rw[zX2,wL,hsl,hlp]
    have ec:(dR (λp _=>gA s' p) co (p+1)).map iA=((dR (λp _=>gA s' p) co p).map iA).set p (iA (gA s' p)):=uO _ _ _ _ zB;have es:(dR (λp x=>siO s s' p x) si (p+1)).map iA=((dR (λp x=>siO s s' p x) si p).map iA).set p (iA (siO s s' p (si.getD p default))):=uO _ _ _ _ zB;have ho:=zG3 (λp=>gA s' p != 0) p zB
    have eb:gB (λp=>gA s' p != 0) (p+1)=if(gA s' p != 0)=true then gB (λp=>gA s' p != 0) p+p2 p else gB (λp=>gA s' p != 0) p:=rfl
    rw[<-ho]at eb;rw[ec,es,eb];have hyp:=zM wU j.ph p zB
    change (j.ph.map wU)[p]? =some (wU (yW j p))at hyp
    have hti:=J.ti p zB;have cn:=zL7 (yW j p) ⟨zB,zB,zB,zB⟩;obtain⟨b1,b2⟩:=hHb p zB;have okp:=S p zB;unfold okI at okp;have hco:=zXz s' p;have hz:s'.lat=true->gA s' p=0:=λh=>by unfold gA;rw[zX1 h]
    rw[show siO s s' p (si.getD p default)=(if s'.lat=true then 1000 else if gA s' p=gA s p then si.getD p default+1 else 0)from rfl];have hpn:p<(j.ph.map wU).length:=by omega
    clear ec es eb ho S N hHb hHc hset hsb ccl;generalize (dR (λp _=>gA s' p) co p).map iA=xs at *;generalize (dR (λp x=>siO s s' p x) si p).map iA=ys at *;generalize gB (λp=>gA s' p != 0) p=bs at *;generalize si.getD p default=x at *;generalize gA s' p=d at *;generalize gA s p=c0 at *;generalize lnF (yW j p)=nd at *;generalize yW j p=ph at *;have hyS:(ys.set p (iA (x+1)))[p]? =some (iA (x+1)):=zZo zB;have hlS:(ys.set p (iA (x+1))).length=(j.ph.map wU).length:=by rw[zZm];exact ls
    have hsS:∀z,(ys.set p (iA (x+1))).set p z=ys.set p z:=λz=>yB1 ..
    cases hlat:s'.lat with
    |true=>
     rw[hlat]at hyk;have hd:=hz hlat;subst hd;rw[zX1 rfl,zX0 yZ,<-hsS];refine WW ?_;rfl
    | false=>
     rw[hlat]at hyk;rw[zX0 zYk];have okp:=okp hlat;by_cases hdc:d=c0
     ·subst hdc
      have hsame:xs.set p (iA d)=xs:=by
       apply zZf;intro q;rw[zZ7];split
       ·rename_i h;subst h;rw[zX1 zB,hyc]
       ·rfl
      rw[zX1 rfl,hsame]
      rcases hco with rfl|rfl|rfl
      all_goals
       refine WW ?_;rfl
     ·rw[zX0 hdc,<-hsS]
      rcases okp hdc with⟨rfl,rfl⟩|⟨rfl,rfl,h3⟩|⟨rfl,h2,h3⟩
      ·(refine zU cn ?_)
       rfl
      ·(refine zU cn ?_)
       rfl
      ·rcases hco with rfl|rfl|rfl
       ·(refine zU cn ?_)
        rfl
       ·have h3:ph.red=0:=h3.elim (λh=>absurd h yZ) id;refine zU cn ?_;rfl
       ·exact absurd rfl hdc
   ·rw[show gB (λp=>gA s' p != 0) wco.length=gB (λp=>gA s' p != 0) j.ph.length by rw[f2]];clear S;refine zU ccl ?_;exact⟨s',_,_,⟨by rw[hppl];exact N,by rw[hpost];exact V',C'⟩,rfl⟩
  ·rintro st ⟨s,co,si,_,rfl⟩;refine WW ?_;rfl
 ·(refine zU ka ?_)
  exact zJ
end Av
end Go.Proofs.YtmamjhmoegjapaaGreat
