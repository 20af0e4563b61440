/- Part 30. -/
import Derived.Test.YtmamjhmoegjapaaGreatP29
namespace Go.Proofs.YtmamjhmoegjapaaGreat
namespace Av
open Tryz
set_option linter.all false
set_option maxRecDepth 4000
set_option maxHeartbeats 8000000
theorem DS (b:List Int) (hb:BY b) (hl:b.length<=1000000):zO 29 [zD yA b] [] (zD yA (RD b)) []:=by
 have hlen:(RD b).length=b.length:=by
  unfold RD;split
  ·exact HL b _ b.length rfl λp hp=>by have:=zC3 (n:=b.length) (a:=0) hb p hp;rw[zZt]at this;exact this
  ·rfl
 refine(zA5 b hb hl).frz [] ?_ rfl rfl;have e:(b.map yA).length=((RD b).map yA).length:=by rw[zYq,zYq,hlen]
 rw[e];exact zZl (AV.sl false) zH3
theorem zCs:∀(r:List Int) (i:Nat) (n:Int),(aF r i n).2.2=0->∃j:Nat,1<=j/\j<=r.length/\(aF r i n).2.1=((i+j:Nat):Int)/\∀z,aF (r.take j++z) i n=aF r i n
 | [],i,n,h=>by exact absurd (show(6:Int)=0 from h) xN
 | x::r,i,n,h=>by
  by_cases hi:i=5
  ·exfalso;rw[aF,zYp hi]at h;exact absurd (show(6:Int)=0 from h) xN
  by_cases hx1:128<=x
  ·have e:∀r,aF (x::r) i n=aF r (i+1) (n+x.tmod 128*128 ^ i):=λr=>by rw[aF,zYo hi,zYp hx1]
   rw[e]at h⊢;obtain⟨j,h1,h2,h3,h4⟩:=zCs r (i+1) _ h;refine⟨j+1,zB,by rw[zY2];omega,by rw[h3];omega,λz=>?_⟩;rw[yCw,yBd,e,h4]
  ·have e:∀r,aF (x::r) i n=if 4294967295<n+x.tmod 128*128 ^ i∨(0<i/\x=0)then(0,0,6)else(n+x.tmod 128*128 ^ i,(i:Int)+1,0):=λr=>by rw[aF,zYo hi,zYo hx1]
   rw[e]at h⊢;by_cases hbad:4294967295<n+x.tmod 128*128 ^ i∨(0<i/\x=0)
   ·rw[zYp hbad]at h;exact absurd (show(6:Int)=0 from h) xN
   ·refine⟨1,zYs _,by rw[zY2];omega,by rw[zYo hbad];rfl,λz=>?_⟩;rw[yCw,yBd,e]
theorem zPa {p:List Int} {q:List Int×List Int} (h:dtF p=some q):∃j,j<=p.length/\p.length<=200/\q.2=p.drop j/\∀z:List Int,z.length+j<=200->dtF (p.take j++z)=some (q.1,z):=by
 unfold dtF at h;split at h
 ·cases h
 ·rename_i hl;rw[WU]at h;split at h
  ·rename_i h0;obtain⟨j,h1,h2,h3,h4⟩:=zCs p 0 0 h0
   have e1:(bZ p).2.1.toNat=j:=by
    show(aF p 0 0).2.1.toNat=j
    rw[h3];simp
   rw[e1]at h;cases h;refine⟨j,h2,zB,rfl,λz hz=>?_⟩;have e2:bZ (p.take j++z)=bZ p:=h4 z;have hlz:(p.take j).length=j:=by rw[zY5];omega
   unfold dtF;rw[zYo (by rw[zYr,hlz];omega),WU,e2,zYp h0,e1]
   have e3:(p.take j++z).drop j=z:=by
    conv=>lhs;rw[<-hlz]
    rw[hlz];exact yEi hlz
   rw[e3];rfl
  ·cases h
def HC (b:List Int) (it:It):List Int:=match BP it with
 |none=>b
 |some n=>b.take (b.length-4-n)++List.replicate (n+4) 0
def zR:Nat->List Int->List Int
 |0,r=>r
 |n+1,r=>match XE r with
  |none=>r
  |some q=>if q.1.code=0 then HC (r.take q.2) q.1++zR n (r.drop q.2)else r
def wA (s:Nat) (l:List Pc):Nat:=l.foldl (λ_ p=>p.fr+p.k) s
theorem DT {b:List Int} {p:It×Nat} (h:XE b=some p) (hc:p.1.code=0):p=(⟨0,b.getD 3 0,(b.drop 6).take (YW b)⟩,YW b+10)/\YW b+10<=b.length:=by
 unfold XE at h
 repeat' split at h
 all_goals (first|(cases h;done)|(cases h;cases hc;done)|skip)
 all_goals (cases h;exact⟨rfl,zB⟩)
theorem HE {b:List Int} {it:It} (h:∀n,BP it=some n->n+4<=b.length):(HC b it).length=b.length:=by
 unfold HC;split
 ·rfl
 ·rename_i n hn;have:=h n hn;rw[zYr,zY5,zZ0];omega
theorem zCt {r:List Int} {q:It×Nat} (hb:BY r) (h:XE r=some q) (hc:q.1.code=0) {n:Nat} (hm:BP q.1=some n):n+10<=q.2:=by
 obtain⟨h1,h2,h3,_⟩:=bW h hc;have hy:BY q.1.pay:=by rw[h3];exact λx hx=>hb x (zZn (zZ1 hx))
 unfold BP at hm;split at hm
 ·rw[zY1]at hm;obtain⟨d,hd,rfl⟩:=hm;have:=zC2 hy hd;omega
 ·cases hm
theorem zJp:∀(n:Nat) (r pre:List Int),BY r->msL (pre++r) (jD n r pre.length)=pre++zR n r
 |0,r,pre,_=>rfl
 | n +1,r,pre,hb=>by
  unfold jD zR
  cases hp:XE r with
  |none=>rfl
  | some q=>
   dsimp only;by_cases hc:q.1.code=0
   ·rw[zYp hc,zYp hc];obtain⟨h1,h2,h3,_⟩:=bW hp hc;have hmd:=λn=>zCt (n:=n) hb hp hc
    have hkl:(r.take q.2).length=q.2:=by rw[zY5];omega
    have hz:(HC (r.take q.2) q.1).length=q.2:=by rw[HE λn hn=>by have:=hmd n hn;omega,hkl]
    have e:zeF (pre++r) ⟨pre.length,q.2,q.1⟩=(pre++HC (r.take q.2) q.1)++r.drop q.2:=by
     unfold zeF HC;dsimp only
     cases hm:BP q.1 with
     |none=>
      dsimp only;rw[zZc,yCe]
     |some m=>
      dsimp only;have:=hmd m hm;rw[hkl,show pre.length+q.2-4-m=pre.length+(q.2-4-m) by omega,List.take_length_add_append,List.drop_length_add_append,yD4,yCn zB];simp only[zZc]
    show msL (zeF (pre++r) ⟨pre.length,q.2,q.1⟩) (jD n (r.drop q.2) (pre.length+q.2))=_
    have ih:=zJp n (r.drop q.2) (pre++HC (r.take q.2) q.1) λx hx=>hb x (zZn hx)
    rw[zYr,hz]at ih;rw[e,ih,zZc]
   ·rw[zYo hc,zYo hc];rfl
theorem zA2:∀(n:Nat) (r:List Int),BY r->(zR n r).length=r.length
 |0,r,_=>rfl
 | n+1,r,hb=>by
  unfold zR
  cases hp:XE r with
  |none=>rfl
  | some q=>
   dsimp only;by_cases hc:q.1.code=0
   ·rw[zYp hc];obtain⟨h1,h2,h3,_⟩:=bW hp hc;have hmd:=λn=>zCt (n:=n) hb hp hc
    have hkl:(r.take q.2).length=q.2:=by rw[zY5];omega
    rw[zYr,HE λn hn=>by have:=hmd n hn;omega,hkl,zA2 n _ λx hx=>hb x (zZn hx),zZk];omega
   ·rw[zYo hc]
theorem HF {b:List Int} (hb:BY b):RD b=if whF b=true then zR b.length b else b:=by
 have:=zJp b.length b [] hb;rw[yA9,yA9]at this;unfold RD;rw[<-this];rfl
theorem QM {b:List Int} (hb:BY b):(RD b).length=b.length:=by
 rw[HF hb];split
 ·exact zA2 _ _ hb
 ·rfl
theorem zW0 {n:Nat} {r:List Int} {a:Nat} (hr:r.length≠0) (h:wA a (jD (n+1) r a)=a+r.length):∃q,XE r=some q/\q.1.code=0/\q.2<=r.length/\wA (a+q.2) (jD n (r.drop q.2) (a+q.2))=(a+q.2)+(r.drop q.2).length:=by
 unfold jD at h
 cases hp:XE r with
 |none=>
  rw[hp]at h;have:a=a+r.length:=h;omega
 |some q=>
  rw[hp]at h;dsimp only at h;by_cases hc:q.1.code=0
  ·rw[zYp hc]at h;have h:wA (a+q.2) (jD n (r.drop q.2) (a+q.2))=a+r.length:=h;have:=(bW hp hc).2.1;exact⟨q,rfl,hc,this,by rw[h,zZk];omega⟩
  ·rw[zYo hc]at h;have:a=a+r.length:=h;omega
theorem zJq {r t:List Int} {q q':It×Nat} (hb:BY r) (hp:XE r=some q) (hc:q.1.code=0) (hp':XE (HC (r.take q.2) q.1++t)=some q') (hc':q'.1.code=0):q'.2=q.2/\HC (HC (r.take q.2) q.1) q'.1=HC (r.take q.2) q.1:=by
 obtain⟨h1,h2,h3,_⟩:=bW hp hc;have hmd:=λn=>zCt (n:=n) hb hp hc
 have hkl:(r.take q.2).length=q.2:=by rw[zY5];omega
 cases hm:BP q.1 with
 |none=>
  have e:HC (r.take q.2) q.1=r.take q.2:=by unfold HC;rw[hm]
  rw[e]at hp'⊢;rw[(HJ hp hc t).1]at hp';cases hp';exact⟨rfl,e⟩
 | some m=>
  have hk:=hmd m hm
  have e:HC (r.take q.2) q.1=r.take (q.2-4-m)++List.replicate (m+4) 0:=by
   unfold HC;rw[hm];dsimp only;rw[hkl,yD4,yCn zB]
  rw[e]at hp'⊢;obtain⟨e1,e2⟩:=DT hp' hc';obtain⟨f1,f2⟩:=DT hp hc
  have g:∀i,i<q.2-4-m->(r.take (q.2-4-m)++List.replicate (m+4) 0++t).getD i 0=r.getD i 0:=λi hi=>by
   rw[zZc];exact tkg hi zB
  have hpn:YW (r.take (q.2-4-m)++List.replicate (m+4) 0++t)=YW r:=zJz (g 4 zB) (g 5 zB);have hk1:q.2=YW r+10:=zZl Prod.snd f1;have hk2:q'.2=q.2:=by rw[hk1,<-hpn];exact zZl Prod.snd e1
  refine⟨hk2,?_⟩
  have hkd:q'.1.kind=q.1.kind:=by
   rw[show q'.1.kind=_ from zZl (λx:It×Nat=>x.1.kind) e1,show q.1.kind=_ from zZl (λx:It×Nat=>x.1.kind) f1];exact g 3 zB
  have hy:q'.1.pay=(r.drop 6).take (q.2-10-m)++List.replicate m 0:=by
   rw[show q'.1.pay=_ from zZl (λx:It×Nat=>x.1.pay) e1];dsimp only;rw[hpn,show YW r=(q.2-10-m)+m by omega,zZc,yCf zB6,List.drop_take,show q.2-4-m-6=q.2-10-m by omega];have hl:((r.drop 6).take (q.2-10-m)).length=q.2-10-m:=by rw[zY5,zZk];omega
   generalize (r.drop 6).take (q.2-10-m)=A at hl⊢;rw[<-hl,List.take_length_add_append,<-List.replicate_append_replicate,zZc,yDh zZ0]
  have hm':BP q'.1=some m:=by
   unfold BP at hm⊢;rw[hkd];split at hm
   ·rename_i h17;rw[zYp h17];rw[zY1]at hm;obtain⟨d,hd,hdm⟩:=hm;obtain⟨j,j1,j2,j3,j4⟩:=zPa hd
    have hj:j=q.2-10-m:=by
     have:=zZl List.length j3;rw[zZk]at this;omega
    have h4:=j4 (List.replicate m 0) (by rw[zZ0];omega);rw[h3,yD4,yCn zB,hj,<-hy]at h4;rw[h4];exact zZl some zZ0
   ·cases hm
  unfold HC;rw[hm'];dsimp only;have hl:(r.take (q.2-4-m)).length=q.2-4-m:=by rw[zY5];omega
  rw[zYr,hl,zZ0,show q.2-4-m+(m+4)-4-m=q.2-4-m by omega,yDh hl]
theorem zRh:∀(n:Nat) (r:List Int) (a:Nat),BY r->wA a (jD n (zR n r) a)=a+(zR n r).length->zR n (zR n r)=zR n r
 |0,r,a,_,_=>rfl
 | n +1,r,a,hb,hw=>by
  cases hp:XE r with
  |none=>
   have e:zR (n+1) r=r:=by unfold zR;rw[hp]
   rw[e,e]
  | some q=>
   by_cases hc:q.1.code=0
   ·obtain⟨h1,h2,h3,_⟩:=bW hp hc;have hmd:=λn=>zCt (n:=n) hb hp hc
    have hkl:(r.take q.2).length=q.2:=by rw[zY5];omega
    have hzl:(HC (r.take q.2) q.1).length=q.2:=by rw[HE λn hn=>by have:=hmd n hn;omega,hkl]
    have e:zR (n+1) r=HC (r.take q.2) q.1++zR n (r.drop q.2):=by
     conv=>lhs;unfold zR
     rw[hp];exact zYp hc
    rw[e]at hw⊢;obtain⟨q',g1,g2,g3,g4⟩:=zW0 (by rw[zYr,hzl];omega) hw;obtain⟨k1,k2⟩:=zJq hb hp hc g1 g2;rw[k1]at g4;rw[yEi hzl]at g4;have ih:=zRh n (r.drop q.2) (a+q.2) (λx hx=>hb x (zZn hx)) g4
    conv=>lhs;unfold zR
    rw[g1];dsimp only;rw[zYp g2,k1,yDh hzl,yEi hzl,k2,ih]
   ·have e:zR (n+1) r=r:=by unfold zR;rw[hp];exact zYo hc
    rw[e,e]
theorem zPb {b:List Int} (hb:BY b):BY (RD b)->RD (RD b)=RD b:=λhb'=>by
 rw[HF hb',QM hb];by_cases hw:whF (RD b)=true
 ·rw[zYp hw];unfold whF at hw;rw[zYx,QM hb]at hw;rw[HF hb]at hw⊢;by_cases h:whF b=true
  ·rw[zYp h]at hw⊢;exact zRh b.length b 0 hb (by rw[zZt,zA2 _ _ hb];exact hw)
  ·rw[zYo h]at hw⊢;exfalso;apply h;unfold whF;exact zYu hw
 ·rw[zYo hw]
theorem zRi:∀(n:Nat) (r:List Int),BY r->BY (zR n r)
 |0,r,hb=>hb
 | n +1,r,hb=>by
  unfold zR
  cases hp:XE r with
  |none=>exact hb
  | some q=>
   dsimp only;by_cases hc:q.1.code=0
   ·rw[zYp hc];intro x hx
    rcases zZa.1 hx with hx|hx
    ·unfold HC at hx;split at hx
     ·exact hb x (zZ1 hx)
     ·rcases zZa.1 hx with hx|hx
      ·exact hb x (zZ1 (zZ1 hx))
      ·rw[List.eq_of_mem_replicate hx];exact⟨by decide,by decide⟩
    ·exact zRi n (r.drop q.2) (λx hx=>hb x (zZn hx)) x hx
   ·rw[zYo hc];exact hb
theorem zJr {b:List Int} (hb:BY b):BY (RD b):=by
 rw[HF hb];split
 ·exact zRi _ _ hb
 ·exact hb
theorem zE8 {b:List Int} (hb:BY b):RD (RD b)=RD b:=zPb hb (zJr hb)
structure TaS where
 t:Nat
 g:Bool
 its:List It
def taC (s:TaS) (p:It×Nat):Bool:=decide (p.1.code=2)&&s.g
def NZ (s:TaS) (p:It×Nat):TaS:=if taC s p=true then⟨s.t+p.2,s.g,s.its⟩else⟨s.t+p.2,decide (p.1.code=2)||(decide (p.1.code=7)||decide (p.1.code=4)),s.its++[p.1]⟩
def taX (N:Nat) (s:TaS) (p:It×Nat):Bool:=!taC s p&&decide (N<=s.its.length+1)
def XC (N:Nat):List (It×Nat)->TaS->TaS
 | [],s=>s
 |p::l,s=>if taX N s p=true then NZ s p else XC N l (NZ s p)
def taG (s0:TaS) (l:List (It×Nat)) (i:Nat):TaS:=(l.take i).foldl NZ s0
theorem DU (s0:TaS) {l:List (It×Nat)} {i:Nat} {p:It×Nat} (h:l[i]? =some p):taG s0 l (i+1)=NZ (taG s0 l i) p:=by
 unfold taG;rw[yA6,h,yDs];rfl
theorem HG {N:Nat}:∀(l:List (It×Nat)) (s:TaS),s.its.length<N->(XC N l s).its.length<=N
 | [],s,h=>yDn h
 | p::l,s,h=>by
  unfold XC
  have h1:(NZ s p).its.length<=s.its.length+1:=by
   unfold NZ;split
   ·dsimp only;omega
   ·dsimp only;rw[zYr];simp
  split
  ·omega
  ·rename_i hx;refine HG l _ ?_;unfold taX at hx;unfold NZ;cases hc:taC s p
   ·rw[hc]at hx;rw[zYo zZb];simp only[yDp,zZh,zYx]at hx;dsimp only;rw[zYr];simp only[zY2,zZz];omega
   ·rw[zYp rfl];exact h
theorem zCu {N:Nat} {Pr:It->Prop}:∀(l:List (It×Nat)) (s:TaS),(∀x∈s.its,Pr x)->(∀p∈l,Pr p.1)->∀x∈(XC N l s).its,Pr x
 | [],s,h,_=>h
 | p::l,s,h,hl=>by
  have h1:∀x∈(NZ s p).its,Pr x:=by
   unfold NZ;split
   ·exact h
   ·intro x hx
    rcases zZa.1 hx with hx|hx
    ·exact h x hx
    ·rw[zZu.1 hx];exact hl p zU
  unfold XC;split
  ·exact h1
  ·exact zCu l _ h1 λq hq=>hl q (by simp[hq])
theorem zJs {N:Nat}:∀(l:List (It×Nat)) (s:TaS),s.t<=(XC N l s).t/\(XC N l s).t<=s.t+zFh l
 | [],s=>⟨zYs _,Nat.le_add_right _ _⟩
 |p::l,s=>by
  have h1:(NZ s p).t=s.t+p.2:=by unfold NZ;split<;>rfl
  have h2:=zJs (N:=N) l (NZ s p);have h3:zFh (p::l)=p.2+zFh l:=by simp[zFh]
  unfold XC
  split<;>omega
theorem zCv:∀(n:Nat) (b:List Int),(gM n b).length<=n
 |0,_=>zYs _
 |n+1,b=>by
  unfold gM;split
  ·exact zY4 _
  ·rename_i q _;have:=zCv n (b.drop q.2);rw[zY2];omega
def stA (b:List Int) (g:Bool):AV:= .agg [zD yA b,bA g]
theorem HI (k N:Nat):zO 100 [iA k,.ptr 1053 0 0] [(1053,.box [iA N])] (bA (decide (N<=k))) [(1053,.box [iA N])]:=by
 by_cases h:N<=k
 ·rw[zYu h];refine eM call100 λF hF=>?_
  refine WW ?_;exact zJ [1053] rfl rfl rfl rfl
 ·rw[zYw h];refine eM call100 λF hF=>?_
  refine WW ?_;exact zJ [1053] rfl rfl rfl rfl
theorem zPc (b:List Int) (hb:BY b) (hl:b.length<=1000) (g:Bool) (N:Nat) (hN:1<=N/\N<=1000):zO 99 [stA b g,.fn 100 [.ptr 1053 0 0]] [(1053,.box [iA N])]
  (.tup [stA (b.drop (XC N (gM b.length b) ⟨0,g,[]⟩).t) (XC N (gM b.length b) ⟨0,g,[]⟩).g,zD vB (XC N (gM b.length b) ⟨0,g,[]⟩).its]) [(1053,.box [iA N])]:=by
 have kp:=zKc b;have ht:=zFi b hb zB;have hbl:=zA yA b;have hr1:=(zJs (N:=N) (gM b.length b) ⟨0,g,[]⟩).2;have hr2:=zC6 (n:=b.length) hb;dsimp only at hr1;have hL:psL b=(gM b.length b).map λp=>[vB p.1,iA (p.2:Int)]:=rfl
 have hG0:taG ⟨0,g,[]⟩ (gM b.length b) 0=⟨0,g,[]⟩:=rfl
 have hGn:∀i,(taG ⟨0,g,[]⟩ (gM b.length b) i).its.length<=i:=λi=>by
  induction i with
  |zero=>exact zYs _
  | succ i ih=>
   cases h:(gM b.length b)[i]? with
   | none=>
    have:taG ⟨0,g,[]⟩ (gM b.length b) (i+1)=taG ⟨0,g,[]⟩ (gM b.length b) i:=by
     unfold taG;rw[yA6,h];simp
    rw[this];omega
   |some p=>
    rw[DU _ h];unfold NZ;split
    ·dsimp only;omega
    ·dsimp only;rw[zYr];simp only[zY2,zZz];omega
 rw[show stA b g= .agg [zD yA b,bA g]from rfl];rw[show stA (b.drop (XC N (gM b.length b) ⟨0,g,[]⟩).t) (XC N (gM b.length b) ⟨0,g,[]⟩).g= .agg [zD yA (b.drop (XC N (gM b.length b) ⟨0,g,[]⟩).t),bA (XC N (gM b.length b) ⟨0,g,[]⟩).g]from rfl];generalize hr:XC N (gM b.length b) ⟨0,g,[]⟩=r at *;unfold psH at kp ht;refine eM call99 λF hF=>?_
 (have zc1:=kp;(repeat' (first|refine WS ?_|refine SG (I2 (λhc=>?_) (λhc=>?_))|refine SG (λhc=>?_)|(refine zE ?_;first|refine SM ?_)|(first|first|refine SR ?_|refine SK (I2 (λhc=>?_) (λhc=>?_))|refine SK (λhc=>?_)|fail|refine vK ?_|refine vL ?_)|fail))<;>clear zc1)
 refine vW 6 0 1051 3 rfl rfl rfl rfl rfl ?_
 refine wW hF ht rfl [2,3,4,6,7,8,1051,1053] [2,3,4,6,7,8] rfl rfl rfl rfl rfl rfl rfl rfl rfl (λk ys h=>?_) (λi=>[(2,.box [zD yA b,bA g]),(3,.box [.fn 100 [.ptr 1053 0 0]]),(4,.box [.s (.slice none 0 0),bA false]),(6,.box [.ref 1051 0 ((taG ⟨0,g,[]⟩ (gM b.length b) i).its.map vB).length]),(7,.box [iA ((taG ⟨0,g,[]⟩ (gM b.length b) i).t:Int)]),(8,.box [bA (taG ⟨0,g,[]⟩ (gM b.length b) i).g]),(1051,.arr 3 ((taG ⟨0,g,[]⟩ (gM b.length b) i).its.map vB) true),(1053,.box [iA N])]) (λi=>XC N ((gM b.length b).drop i) (taG ⟨0,g,[]⟩ (gM b.length b) i)=r)
  (T:=[(2,.ptr 2 0 0),(3,.ptr 3 0 0),(4,.ptr 4 0 0),(6,.ptr 6 0 0),(7,.ptr 7 0 0),(8,.ptr 8 0 0)]) rfl hr (λi ys q hys hI F1 h1 h2=>?_) (λhI=>?_)
 ·rw[hL,zYt,zY1]at h;obtain⟨x,_,rfl⟩:=h;rfl
 ·rw [hL,zYt,zY1]at hys;obtain⟨p,hp,rfl⟩:=hys;have e1:=DU (⟨0,g,[]⟩:TaS) hp;have hil:i<(gM b.length b).length:=(zZg.1 hp).1
  have e2:(gM b.length b).drop i=p::(gM b.length b).drop (i+1):=by
   rw[yBo hil]
   congr 1
   exact(zZg.1 hp).2
  rw[e2]at hI;rw[e1];have hgi:=hGn i;have hps:=zC6 (n:=b.length) hb;generalize taG ⟨0,g,[]⟩ (gM b.length b) i=s at*
  have hst:s.t+p.2<=b.length:=by
   have h9:(NZ s p).t=s.t+p.2:=by unfold NZ;split<;>rfl
   unfold XC at hI;split at hI
   ·rw[<-h9,hI];omega
   ·have:=(zJs (N:=N) ((gM b.length b).drop (i+1)) (NZ s p)).1;rw[hI]at this;omega
  have hpl:=zCv b.length b;have hi3:i<=1000:=by omega
  clear hp hil e1 e2 hL hG0 hGn hps ht kp;generalize (gM b.length b).drop (i+1)=l2 at *;generalize (gM b.length b).length=L at *;obtain⟨t0,g0,its⟩:=s;obtain⟨⟨cd,kd,py⟩,n⟩:=p;dsimp only at hst hgi;have him:=zA vB its;rw[show vB (({code:=cd,kind:=kd,pay:=py}:It),n).fst= .agg [iA cd,iA kd,zD yA py]from rfl];refine WW ?_;refine⟨rfl,λF2 g1 g2=>?_⟩;dsimp only;by_cases hc:cd=2
  ·subst hc;cases g0
   ·have e3:NZ ⟨t0,false,its⟩ (⟨2,kd,py⟩,n)=⟨t0+n,true,its++[⟨2,kd,py⟩]⟩:=rfl;have e4:taX N ⟨t0,false,its⟩ (⟨2,kd,py⟩,n)=decide (N<=its.length+1):=rfl;unfold XC at hI;rw[e3,e4]at hI;rw[e3];have kst:=HI (its.map vB++[AV.agg [iA 2,iA kd,zD yA py]]).length N;rw[show decide (N<=(its.map vB++[AV.agg [iA 2,iA kd,zD yA py]]).length)=decide (N<=its.length+1) by simp]at kst;by_cases hs:N<=its.length+1
    ·rw[zYu hs]at kst;rw[zYp (zYu hs)]at hI;subst hI;have hbt:=zA yA b;have kc:=wK (b.drop ((t0:Int)+(n:Int)).toNat) RP;have eD:zD yA (b.drop (t0+n))=zD yA (b.drop ((t0:Int)+(n:Int)).toNat):=by rw[show((t0:Int)+(n:Int)).toNat=t0+n by omega]
     dsimp only;rw[eD];rw[show zD vB (its++[⟨2,kd,py⟩])= .sl false (its.map vB++[AV.agg [iA 2,iA kd,zD yA py]]) by unfold zD;rw[zYz];rfl]
     (have zc1:=kst;have zc2:=kc;(repeat' (first|refine WS ?_|refine SG (I2 (λhc=>?_) (λhc=>?_))|refine SG (λhc=>?_)|(refine zE ?_;first|refine SM ?_)|(first|first|refine SR ?_|refine SK (I2 (λhc=>?_) (λhc=>?_))|refine SK (λhc=>?_)|fail|refine vK ?_|refine vL ?_)|fail))<;>clear zc1 zc2)
     refine zI [1053] rfl rfl ?_ rfl
     show AV.tup [_,AV.sl false (List.take (its.map vB++[AV.agg [iA 2,iA kd,zD yA py]]).length (its.map vB++[AV.agg [iA 2,iA kd,zD yA py]]))]=_
     rw[zYv];rfl
    ·rw[zYw hs]at kst;rw[zYo zB7]at hI;dsimp only;rw[zYz,show [(⟨2,kd,py⟩:It)].map vB=[AV.agg [iA 2,iA kd,zD yA py]]from rfl]
     (have zc1:=kst;(repeat' (first|refine WS ?_|refine SG (I2 (λhc=>?_) (λhc=>?_))|refine SG (λhc=>?_)|(refine zE ?_;first|refine SM ?_)|(first|first|refine SR ?_|refine SK (I2 (λhc=>?_) (λhc=>?_))|refine SK (λhc=>?_)|fail|refine vK ?_|refine vL ?_)|fail))<;>clear zc1)
     exact⟨rfl,hI⟩
   ·have e3:NZ ⟨t0,true,its⟩ (⟨2,kd,py⟩,n)=⟨t0+n,true,its⟩:=rfl;have e4:taX N ⟨t0,true,its⟩ (⟨2,kd,py⟩,n)=false:=rfl;unfold XC at hI;rw[e3,e4,zYo zZb]at hI;rw[e3];dsimp only
    (repeat' (first|refine WS ?_|refine SG (I2 (λhc=>?_) (λhc=>?_))|refine SG (λhc=>?_)|(refine zE ?_;first|refine SM ?_)|(first|first|refine SR ?_|refine SK (I2 (λhc=>?_) (λhc=>?_))|refine SK (λhc=>?_)|fail|refine vK ?_|refine vL ?_)|fail))
    exact⟨rfl,hI⟩
  ·have ex:taC ⟨t0,g0,its⟩ (⟨cd,kd,py⟩,n)=false:=by
    unfold taC;rw[zYw hc,yAf]
   have e4:taX N ⟨t0,g0,its⟩ (⟨cd,kd,py⟩,n)=decide (N<=its.length+1):=by
    unfold taX;rw[ex];rfl
   by_cases h7:cd=7
   ·subst h7;have e3:NZ ⟨t0,g0,its⟩ (⟨7,kd,py⟩,n)=⟨t0+n,true,its++[⟨7,kd,py⟩]⟩:=rfl;unfold XC at hI;rw[e3,e4]at hI;rw[e3];have kst:=HI (its.map vB++[AV.agg [iA 7,iA kd,zD yA py]]).length N;rw[show decide (N<=(its.map vB++[AV.agg [iA 7,iA kd,zD yA py]]).length)=decide (N<=its.length+1) by simp]at kst;by_cases hs:N<=its.length+1
    ·rw[zYu hs]at kst;rw[zYp (zYu hs)]at hI;subst hI;have hbt:=zA yA b;have kc:=wK (b.drop ((t0:Int)+(n:Int)).toNat) RP;have eD:zD yA (b.drop (t0+n))=zD yA (b.drop ((t0:Int)+(n:Int)).toNat):=by rw[show((t0:Int)+(n:Int)).toNat=t0+n by omega]
     dsimp only;rw[eD];rw[show zD vB (its++[⟨7,kd,py⟩])= .sl false (its.map vB++[AV.agg [iA 7,iA kd,zD yA py]]) by unfold zD;rw[zYz];rfl]
     (have zc1:=kst;have zc2:=kc;(repeat' (first|refine WS ?_|refine SG (I2 (λhc=>?_) (λhc=>?_))|refine SG (λhc=>?_)|(refine zE ?_;first|refine SM ?_)|(first|first|refine SR ?_|refine SK (I2 (λhc=>?_) (λhc=>?_))|refine SK (λhc=>?_)|fail|refine vK ?_|refine vL ?_)|fail))<;>clear zc1 zc2)
     refine zI [1053] rfl rfl ?_ rfl
     show AV.tup [_,AV.sl false (List.take (its.map vB++[AV.agg [iA 7,iA kd,zD yA py]]).length (its.map vB++[AV.agg [iA 7,iA kd,zD yA py]]))]=_
     rw[zYv];rfl
    ·rw[zYw hs]at kst;rw[zYo zB7]at hI;dsimp only;rw[zYz,show [(⟨7,kd,py⟩:It)].map vB=[AV.agg [iA 7,iA kd,zD yA py]]from rfl]
     (have zc1:=kst;(repeat' (first|refine WS ?_|refine SG (I2 (λhc=>?_) (λhc=>?_))|refine SG (λhc=>?_)|(refine zE ?_;first|refine SM ?_)|(first|first|refine SR ?_|refine SK (I2 (λhc=>?_) (λhc=>?_))|refine SK (λhc=>?_)|fail|refine vK ?_|refine vL ?_)|fail))<;>clear zc1)
     exact⟨rfl,hI⟩
   by_cases h4:cd=4
   ·subst h4;have e3:NZ ⟨t0,g0,its⟩ (⟨4,kd,py⟩,n)=⟨t0+n,true,its++[⟨4,kd,py⟩]⟩:=rfl;unfold XC at hI;rw[e3,e4]at hI;rw[e3];have kst:=HI (its.map vB++[AV.agg [iA 4,iA kd,zD yA py]]).length N;rw[show decide (N<=(its.map vB++[AV.agg [iA 4,iA kd,zD yA py]]).length)=decide (N<=its.length+1) by simp]at kst;by_cases hs:N<=its.length+1
    ·rw[zYu hs]at kst;rw[zYp (zYu hs)]at hI;subst hI;have hbt:=zA yA b;have kc:=wK (b.drop ((t0:Int)+(n:Int)).toNat) RP;have eD:zD yA (b.drop (t0+n))=zD yA (b.drop ((t0:Int)+(n:Int)).toNat):=by rw[show((t0:Int)+(n:Int)).toNat=t0+n by omega]
     dsimp only;rw[eD];rw[show zD vB (its++[⟨4,kd,py⟩])= .sl false (its.map vB++[AV.agg [iA 4,iA kd,zD yA py]]) by unfold zD;rw[zYz];rfl]
     (have zc1:=kst;have zc2:=kc;(repeat' (first|refine WS ?_|refine SG (I2 (λhc=>?_) (λhc=>?_))|refine SG (λhc=>?_)|(refine zE ?_;first|refine SM ?_)|(first|first|refine SR ?_|refine SK (I2 (λhc=>?_) (λhc=>?_))|refine SK (λhc=>?_)|fail|refine vK ?_|refine vL ?_)|fail))<;>clear zc1 zc2)
     refine zI [1053] rfl rfl ?_ rfl
     show AV.tup [_,AV.sl false (List.take (its.map vB++[AV.agg [iA 4,iA kd,zD yA py]]).length (its.map vB++[AV.agg [iA 4,iA kd,zD yA py]]))]=_
     rw[zYv];rfl
    ·rw[zYw hs]at kst;rw[zYo zB7]at hI;dsimp only;rw[zYz,show [(⟨4,kd,py⟩:It)].map vB=[AV.agg [iA 4,iA kd,zD yA py]]from rfl]
     (have zc1:=kst;(repeat' (first|refine WS ?_|refine SG (I2 (λhc=>?_) (λhc=>?_))|refine SG (λhc=>?_)|(refine zE ?_;first|refine SM ?_)|(first|first|refine SR ?_|refine SK (I2 (λhc=>?_) (λhc=>?_))|refine SK (λhc=>?_)|fail|refine vK ?_|refine vL ?_)|fail))<;>clear zc1)
     exact⟨rfl,hI⟩
   ·have e3:NZ ⟨t0,g0,its⟩ (⟨cd,kd,py⟩,n)=⟨t0+n,false,its++[⟨cd,kd,py⟩]⟩:=by
     unfold NZ;rw[ex,zYo zZb];dsimp only;rw[zYw hc,zYw h7,zYw h4];rfl
    unfold XC at hI;rw[e3,e4]at hI;rw[e3];have kst:=HI (its.map vB++[AV.agg [iA cd,iA kd,zD yA py]]).length N;rw[show decide (N<=(its.map vB++[AV.agg [iA cd,iA kd,zD yA py]]).length)=decide (N<=its.length+1) by simp]at kst;by_cases hs:N<=its.length+1
    ·rw[zYu hs]at kst;rw[zYp (zYu hs)]at hI;subst hI;have hbt:=zA yA b;have kc:=wK (b.drop ((t0:Int)+(n:Int)).toNat) RP;have eD:zD yA (b.drop (t0+n))=zD yA (b.drop ((t0:Int)+(n:Int)).toNat):=by rw[show((t0:Int)+(n:Int)).toNat=t0+n by omega]
     dsimp only;rw[eD];rw[show zD vB (its++[⟨cd,kd,py⟩])= .sl false (its.map vB++[AV.agg [iA cd,iA kd,zD yA py]]) by unfold zD;rw[zYz];rfl]
     (have zc1:=kst;have zc2:=kc;(repeat' (first|refine WS ?_|refine SG (I2 (λhc=>?_) (λhc=>?_))|refine SG (λhc=>?_)|(refine zE ?_;first|refine SM ?_)|(first|first|refine SR ?_|refine SK (I2 (λhc=>?_) (λhc=>?_))|refine SK (λhc=>?_)|fail|refine vK ?_|refine vL ?_)|fail))<;>clear zc1 zc2)
     refine zI [1053] rfl rfl ?_ rfl
     show AV.tup [_,AV.sl false (List.take (its.map vB++[AV.agg [iA cd,iA kd,zD yA py]]).length (its.map vB++[AV.agg [iA cd,iA kd,zD yA py]]))]=_
     rw[zYv];rfl
    ·rw[zYw hs]at kst;rw[zYo zB7]at hI;dsimp only;rw[zYz,show [(⟨cd,kd,py⟩:It)].map vB=[AV.agg [iA cd,iA kd,zD yA py]]from rfl]
     (have zc1:=kst;(repeat' (first|refine WS ?_|refine SG (I2 (λhc=>?_) (λhc=>?_))|refine SG (λhc=>?_)|(refine zE ?_;first|refine SM ?_)|(first|first|refine SR ?_|refine SK (I2 (λhc=>?_) (λhc=>?_))|refine SK (λhc=>?_)|fail|refine vK ?_|refine vL ?_)|fail))<;>clear zc1)
     exact⟨rfl,hI⟩
 ·have e1:taG ⟨0,g,[]⟩ (gM b.length b) (psL b).length=r:=by
   rw[hL,zYq]at hI⊢;rw[yCi]at hI;exact hI
  rw[e1];have hbt:=zA yA b;have kc:=wK (b.drop ((r.t:Nat):Int).toNat) RP
  (have zc1:=kc;(repeat' (first|refine WS ?_|refine SG (I2 (λhc=>?_) (λhc=>?_))|refine SG (λhc=>?_)|(refine zE ?_;first|refine SM ?_)|(first|first|refine SR ?_|refine SK (I2 (λhc=>?_) (λhc=>?_))|refine SK (λhc=>?_)|fail|refine vK ?_|refine vL ?_)|fail))<;>clear zc1)
  refine zI [1053] rfl rfl ?_ rfl
  show AV.tup [_,AV.sl false (List.take (r.its.map vB).length (r.its.map vB))]=_
  rw[zYv];rfl
section
variable {P:Program} {K0:List Nat} {F:Fr K0} {m:Nat} {ops:Array Oper} {rest:List Oper} {fs:List FP} {tm:List (Nat×AV)} {h:List (Nat×xP)}
theorem zA3 {Q:List FP->St->Prop} (t K sz:Nat) (hv:zG tm t= .s (.slice none 0 0)) (hK:(zC h K).isNone=true) (hp:Nat.ble 1 sz=true) (h1:zY P F m ops false rest ⟨(t,.ref K 0 0)::tm,(K,.arr sz [] true)::h⟩ fs Q):zY P F m ops false rest ⟨tm,h⟩ fs Q:=
 ⟨λa w R=>h1.run a w (wO.virt R t K sz hv hK hp)⟩
end
theorem zTz (m:Ms) (h:RE m):zO 118 [yB m] [] (bA false) []:=by
 obtain⟨k,tk,ar,da⟩:=m;obtain⟨h1,h2⟩:=h;dsimp only at h1 h2;subst h1;have c:=zUl h2;rw[show yB ⟨k,[],ar,da⟩= .agg [iA k,zD yA [],zD iA ar,zD yA da]from rfl]at *; refine eM call118 λF hF=>?_
 refine zW c ?_;exact zL
theorem zW1 (l:List Ms) (hl9:l.length<=1000000) (h:∀m∈l,RE m):zO 167 [zD yB l,.fn 118 []] [] (iA (-1)) []:=by
 have hl:=zA yB l;refine eM call167 λF hF=>?_
 refine WW ?_;refine yS (l) [] [] [0,1,7] [8,0,1,7] rfl (λi pre T U=>⟨(8,iA i)::T,U⟩) ?_;(conv=>whnf);refine⟨by rfl,?_,?_⟩
 ·intro i pre x post hx hi;have hy:=xO yB hx hi;have hlt:=yX hx hi;have c:=zTz x (h x (wY hx));clear hx;refine zW c ?_;rfl
 ·(refine WW ?_)
  exact zL
theorem zT0 (l:List Ms) (hl9:l.length<=1000000) (h:∀m∈l,RE m):zO 117 [zD yB l,.fn 118 []] [] (zD yB l) []:=by
 have c:=zW1 l hl9 h;have hl:=zA yB l;refine eM call117 λF hF=>?_
 refine zW c ?_;exact zL
theorem DV (l:List Ms) (hl9:l.length<=1000000) (h:∀m∈l,RE m):zO 67 [zD yB l] [] (zD yB l) []:=by
 have c:=zT0 l hl9 h;have hl:=zA yB l;refine eM call67 λF hF=>?_
 refine zW c ?_;exact zL
theorem zJt (y:Int):0<=WQ y/\WQ y<256:=by
 unfold WQ;have e:IntKind.u8.wrap y=y % 256:=by simp[IntKind.wrap,IntKind.signed,IntKind.bits]
 rw[e];omega
theorem zJu {l:List Vw} (h:∀v∈l,BT v):BY (MC l):=λx hx=>by
 unfold MC at hx;obtain⟨y,hy,hx⟩:=yCc.1 hx;obtain⟨v,hv,rfl⟩:=zZ3.1 hy;have hb:=h v hv;have hc:=GB hb.c v.co.length (zYs _) hb.n;have hp:=WR v.co.length hb.n;have hs:=zXj (n:=kW v.co v.co.length) hc.1 zB;unfold vwF at hx;simp only[yBd,yA9,zZ5,zZ3]at hx
 rcases hx with rfl|rfl|rfl|⟨y,_,rfl⟩
 ·unfold hdF
  split<;>split<;>omega
 ·omega
 ·exact zJt _
 ·exact zJt _
theorem zT1 (l:List Rq) (v:List Vw) (now:Int) (n:Nat):BY (cqL l v now n):=λx hx=>by
 unfold cqL at hx;obtain⟨i,_,rfl⟩:=zZ3.1 hx;unfold cqF;split
 ·have:=zLt ((l.getD (i/3) default).legs.getD (i % 3) default) v now;omega
 ·omega
theorem zJv (d:xQ) (hq:0<=d.rg.ag.req/\d.rg.ag.req<=4) (v:List Vw) (now:Int) (n0:0<=now) (n1:now<=1073741824) (hn:v.length<=4) (hb:∀w∈v,BT w):RE (bX d v now):=by
 have h1:=UX hb;have h2:=eK [now];have h3:(cqL d.rq v now (d.rg.ag.req.toNat*3)).length=d.rg.ag.req.toNat*3:=by simp[cqL]
 refine⟨rfl,by dsimp only[bX,stM];omega,.cons zB .nil,by simp[bX,stM],?_,.inl rfl,.inl ⟨rfl,rfl⟩,?_⟩
 ·intro x hx
  rcases zZa.1 hx with hx|hx
  ·exact zJu hb x hx
  ·exact zT1 _ _ _ _ x hx
 ·show(([now].map cO).flatten).length+1+(MC v++cqL d.rq v now (d.rg.ag.req.toNat*3)).length<=200
  rw[zYr];simp only[zY2,zZz]at h2;omega
def MZ (now:Int) (v:List Vw):Ms:=⟨21,[],[now],MC v⟩
theorem zW2 (v:List Vw) (now:Int) (n0:0<=now) (n1:now<=1073741824) (hn:v.length<=4) (hb:∀w∈v,BT w):RE (MZ now v):=by
 have h1:=UX hb;have h2:=eK [now];refine⟨rfl,by dsimp only[MZ];omega,.cons zB .nil,by simp[MZ],zJu hb,.inl rfl,.inl ⟨rfl,rfl⟩,?_⟩
 show(([now].map cO).flatten).length+1+(MC v).length<=200
 simp only[zY2,zZz]at h2;omega
theorem zT9 (now:Int) (v:List Vw) (hn:v.length<=1000) (hb:∀w∈v,BT w):zO 32 [iA now,zD vO v] [] (yB (MZ now v)) []:=by
 have kr:=zLs v hn hb;have hrl:=zA yA (MC v);refine eM call32 λF hF=>?_
 refine zW kr ?_;refine zI [] rfl rfl ?_ rfl;exact zZl (λz=>AV.agg [iA 21,AV.sl false [],AV.sl false [iA now],AV.sl false z]) zYv
def ZH (e:En):List Int:=[e.ag,e.ki,e.co]
def trM (now:Int) (en:List En):Ms:=⟨18,[],now::((en.take 16).map ZH).flatten,[]⟩
theorem zYb (now:Int) (n0:0<=now) (n1:now<=1073741824) (en:List En) (h:∀e∈en,EnK e):RE (trM now en):=by
 have hl:(en.take 16).length<=16:=by rw[zY5];omega
 have hm:∀e∈en.take 16,EnK e:=λe he=>h e (zZ1 he)
 unfold trM;generalize en.take 16=l at*
 have h3:((l.map ZH).flatten).length=3*l.length:=by
  clear hm hl
  induction l with
  |nil=>rfl
  |cons e l ih=>rw[yAa,yBf,zYr,ih,zY2];show 3+_=_;omega
 have hz:((((l.map ZH).flatten).map cO).flatten).length<=4*l.length:=by
  clear h3 hl
  induction l with
  |nil=>simp
  |cons e l ih=>
   have ih:=ih λx hx=>hm x VX
   have he:=hm e zU;have e1:=CD (n:=e.ag) (by have:=he.a;omega);have e2:=zW5 (n:=e.ki) (by have:=he.k;omega);have e3:=CD (n:=e.co) (by have:=he.c;omega);rw[yAa,yBf,zYz,yDd,zYr,zY2];simp only[ZH,yAa,yA5,yBf,List.flatten_nil,zYr,zZo];omega
 have e0:=(fD now).2;refine⟨rfl,by dsimp only;omega,?_,by dsimp only;rw[zY2];omega,λx hx=>(by cases hx),.inr rfl,.inr ⟨.inr rfl,(l.length:Int),?_,zB,by show(0:Int)<=_;omega,by show _<=(16:Int);omega⟩,?_⟩
 ·refine .cons zB ?_;intro x hx;obtain⟨y,hy,hx⟩:=yCc.1 hx;obtain⟨e,he,rfl⟩:=zZ3.1 hy;have hk:=hm e he;have h1:=hk.a;have h2:=hk.k;have h4:=hk.c;simp only[ZH,zZ5,yCt,yD5]at hx;omega
 ·show((now::(l.map ZH).flatten).length:Int)=1+3*(l.length:Int)
  rw[zY2];omega
 ·show(((now::(l.map ZH).flatten).map cO).flatten).length+1+0<=200
  rw[yAa,yBf,zYr];omega
def tlF (d:xQ) (vw:List Vw) (now:Int) (k:Nat) (R:List (List Ms)) (en:List En):List Ms:=(R.getD k []++[bX d vw now])++(if d.au.getD k default=true then [trM now en]else [])
theorem zRj (d:xQ) (hq:0<=d.rg.ag.req/\d.rg.ag.req<=4) (v:List Vw) (now:Int) (n0:0<=now) (n1:now<=1073741824) (hn:v.length<=4) (hb:∀w∈v,BT w) (k:Nat) (R:List (List Ms)) (hR:∀l∈R,l.length<=1000/\∀m∈l,RE m) (hk:k<R.length) (en:List En) (h:∀e∈en,EnK e):(tlF d v now k R en).length<=1002/\∀m∈tlF d v now k R en,RE m:=by
 have hr:R.getD k []∈R:=by
  rw[zY0,zZd hk];exact yBm _
 obtain⟨h1,h2⟩:=hR _ hr;unfold tlF;refine⟨?_,λm hm=>?_⟩
 ·rw[zYr,zYr];split
  ·simp only[zY2,zZz];omega
  ·simp only[zY2,zZz];omega
 ·rcases zZa.1 hm with hm|hm
  ·rcases zZa.1 hm with hm|hm
   ·exact h2 m hm
   ·rw[zZu.1 hm];exact zJv d hq v now n0 n1 hn hb
  ·split at hm
   ·rw[zZu.1 hm];exact zYb now n0 n1 en h
   ·cases hm
theorem zYc (en:List En):en.take (min ((en.map gF).length:Int) 16).toNat=en.take 16:=by
 rw[zYq];by_cases h:en.length<=16
 ·rw[zYy zB,zYy zB]
 ·congr 1
  omega
theorem zPd (y:Cy) (n0:0<=y.now) (n1:y.now<=1073741824) (a k s:Nat) (ha:a<y.ds.length) (hd:eU (y.ds.getD a default)) (hq:0<=(y.ds.getD a default).rg.ag.req/\(y.ds.getD a default).rg.ag.req<=4) (hn:y.vw.length<=4) (hb:∀w∈y.vw,BT w) (hk:k<(y.ds.getD a default).au.length)
  (R:List (List Ms)) (hR:∀l∈R,l.length<=1000/\∀m∈l,RE m) (hkR:k<R.length) (en:List En) (he:∀e∈en,EnK e) (hel:en.length<=100000):
  zO 66 [qB y,plA a k s,zD aO R,zD gF en] [] (zD yB (tlF (y.ds.getD a default) y.vw y.now k R en)) []:=by
 have ht:=zRj _ hq y.vw y.now n0 n1 hn hb k R hR hkR en he;have kv:=DV (tlF (y.ds.getD a default) y.vw y.now k R en) zB ht.2;have ks:=BA (y.ds.getD a default) hd hq y.vw y.now zB hb;have hyd:=zN zK y.ds a ha;have hyr:=zN aO R k hkR;have hyk:=zN bA (y.ds.getD a default).au k hk;have hlr:=zA aO R;have hle:=zA gF en;have hlk:=zA bA (y.ds.getD a default).au;have hR1:=(hR _ (zZ R k hkR)).1;have eR:R.getD k default=R.getD k []:=rfl;unfold qB YV;unfold tlF at kv⊢;rw[eR]at hyr hR1;generalize bX (y.ds.getD a default) y.vw y.now=st at *;generalize R.getD k []=rp at *;have hlp:=zA yB rp;unfold aO zD at hyr;generalize y.ds.getD a default=d at *;unfold zK wH at hyd ks;refine eM call66 λF hF=>?_
 refine zW ks ?_;refine zA3 25 1001 4 rfl rfl rfl ?_;generalize d.au.getD k default=b at *;cases b
 ·have e1:zD yB ((rp++[st])++if false=true then [trM y.now en]else [])= .sl false (rp.map yB++[yB st]):=by
   rw[zYo zZb,zZo];unfold zD;rw[zYz];rfl
  rw[e1]at kv⊢
  (have zc1:=ks;(repeat' (first|refine qS ?_|refine xR (λhc=>?_) (λhc=>?_)|refine wE (λhc=>?_)|(refine zE ?_;first|refine SM ?_)|fail))<;>clear zc1)
  (refine vT 67 ?_;refine gB [] [85] rfl ?_;(conv=>whnf);(try simp only[zZv,zYv]);first|refine yF (zH (kv) rfl rfl rfl rfl rfl) rfl ?_|refine uF (zH (kv) rfl rfl rfl rfl rfl) rfl rfl rfl ?_|refine bJ (zH (kv) rfl rfl rfl rfl rfl) rfl rfl rfl ?_)
  (repeat' (first|refine qS ?_|refine xR (λhc=>?_) (λhc=>?_)|refine wE (λhc=>?_)|(refine zE ?_;first|refine SM ?_)|fail))
  exact zL
 ·have e1:zD yB ((rp++[st])++if true=true then [trM y.now en]else [])= .sl false ((rp.map yB++[yB st])++[yB (trM y.now en)]):=by
   rw[zYp rfl];unfold zD;rw[zYz,zYz];rfl
  rw[e1]at kv⊢
  (have zc1:=ks;(repeat' (first|refine qS ?_|refine xR (λhc=>?_) (λhc=>?_)|refine wE (λhc=>?_)|(refine zE ?_;first|refine SM ?_)|fail))<;>clear zc1)
  rw[zYc];have hl16:(en.take 16).length<=16:=by rw[zY5];omega
  have hl17:=zA gF (en.take 16);rw[show yB (trM y.now en)= .agg [iA 18,.sl false [],.sl false ((y.now::((en.take 16).map ZH).flatten).map iA),.sl false []]from rfl]at *; generalize en.take 16=l16 at *;refine vZ 57 rfl ?_;refine yS (l16) [11,57,1001] [1001] [10,11,63,64] [65,10,11,63,64] rfl (λi pre T U=>⟨(65,iA i)::T,(11,.box [iA 18,.s (.slice none 0 0),.ref 57 0 ((y.now::(pre.map ZH).flatten).map iA).length,.s (.slice none 0 0)])::(57,.arr 1 ((y.now::(pre.map ZH).flatten).map iA) true)::U⟩) ?_;(conv=>whnf);refine⟨by rfl,?_,?_⟩
  ·intro i pre x post hx hi;have hy:=xO gF hx hi;have hlt:=yX hx hi
   have hpl:((pre.map ZH).flatten).length=3*pre.length:=by
    clear hx hi hy
    induction pre with
    |nil=>rfl
    |cons e l ih=>rw[yAa,yBf,zYr,ih,zY2];show 3+_=_;omega
   have hpm:=zA iA (y.now::(pre.map ZH).flatten);rw[zY2]at hpm;rw[zYz,yDd];rw[show(y.now::((pre.map ZH).flatten++([x].map ZH).flatten)).map iA=(y.now::(pre.map ZH).flatten).map iA++[iA x.ag,iA x.ki,iA x.co] by simp[ZH]];unfold gF MI at hy;clear hx kv ks e1;generalize (y.now::(pre.map ZH).flatten).map iA=X at *;refine WW ?_;rfl
  ·refine uQ [11,1001] [10,11,63,64,65] rfl ?_
   (conv=>whnf)
   simp only[zZv,zYv]
   (repeat' (first|refine aT ?_|refine xR (λhc=>?_) (λhc=>?_)|refine wE (λhc=>?_)|(refine zE ?_;first|(refine yZ ?_;refine UG 82 rfl rfl rfl ?_;refine kH tok rfl rfl ?_))|refine SB ?_|fail))
   (refine vT 67 ?_;refine gB [] [85] rfl ?_;(conv=>whnf);(try simp only[zZv,zYv]);first|refine yF (zH (kv) rfl rfl rfl rfl rfl) rfl ?_|refine uF (zH (kv) rfl rfl rfl rfl rfl) rfl rfl rfl ?_|refine bJ (zH (kv) rfl rfl rfl rfl rfl) rfl rfl rfl ?_)
   (repeat' (first|refine qS ?_|refine xR (λhc=>?_) (λhc=>?_)|refine wE (λhc=>?_)|(refine zE ?_;first|refine SM ?_)|fail))
   exact zL
theorem zJw (b:List Int) (hb:BY b) (hl:b.length<=1000) (g:Bool) (N:Nat) (hN:1<=N/\N<=1000):zO 59 [stA b g,iA N] []
  (.tup [stA (b.drop (XC N (gM b.length b) ⟨0,g,[]⟩).t) (XC N (gM b.length b) ⟨0,g,[]⟩).g,zD vB (XC N (gM b.length b) ⟨0,g,[]⟩).its]) []:=by
 have k:=zPc b hb hl g N hN;generalize XC N (gM b.length b) ⟨0,g,[]⟩=r at *;unfold stA at *;refine eM call59 λF hF=>?_
 repeat' (first|(refine zE ?_;first|refine uF (kZ (v:=AV.agg _) 2 rfl rfl) rfl rfl rfl ?_|refine uF (kZ (v:=AV.s _) 1053 rfl rfl) rfl rfl rfl ?_|refine wZ tok rfl rfl ?_|refine dX tok rfl rfl rfl rfl ?_|refine uM ?_)|(first|refine xM ?_|refine xB ?_|refine wU rfl ?_|refine zV rfl ?_|refine zQ rfl ?_|refine xF rfl (λhc=>?_) (λhc=>?_)|refine yV ?_|refine yQ ?_|refine xC ?_|refine yN ?_))
 refine zW k ?_;exact zL
theorem zW3 (b:List Int) (hl:b.length<=256) (g:Bool) (x:List Int) (hx:x.length<=1000000):zO 97 [stA b g,zD yA x] [] (.tup [stA (b++x.take (UR b.length x.length)) g,bA (decide (UR b.length x.length=x.length))]) []:=by
 have hbl:=zA yA b;have hxl:=zA yA x;have hf:UR b.length x.length<=x.length/\b.length+UR b.length x.length<=256:=by unfold UR;omega
 have e1:min ((x.length:Nat):Int) (max (256-((b.length:Nat):Int)) 0)=((UR b.length x.length:Nat):Int):=by unfold UR;omega
 have e2:zD yA (b++x.take (UR b.length x.length))= .sl false (b.map yA++(x.take (UR b.length x.length)).map yA):=by unfold zD;rw[zYz]
 unfold stA;rw[e2];generalize UR b.length x.length=f at *;refine eM call97 λF hF=>?_
 refine WW ?_;rw[hbl,hxl,e1];refine zI [] rfl rfl ?_ rfl
 show AV.tup [AV.agg [AV.sl false (List.take (b.map yA++(x.take f).map yA).length (b.map yA++(x.take f).map yA)),bA g],bA (qT .eql (f:Int) (x.length:Int))]=_
 rw[zYv,show qT .eql (f:Int) (x.length:Int)=decide (f=x.length) by
  by_cases h9:f=x.length
  ·rw[h9];simp[qT]
  ·have:(f:Int)≠(x.length:Int):=by omega
   simp[qT,h9,this]]
def WF (s:Ss):Ss×In:=if s.op=true then(⟨true,false,s.bf.drop (XC 4 (gM s.bf.length s.bf) ⟨0,s.gb,[]⟩).t,(XC 4 (gM s.bf.length s.bf) ⟨0,s.gb,[]⟩).g⟩,⟨true,(if s.dr=true then [⟨15,0,[]⟩]else [])++(XC 4 (gM s.bf.length s.bf) ⟨0,s.gb,[]⟩).its⟩)else(s,⟨false,[]⟩)
theorem zCw (s:Ss) (hb:BY s.bf) (hl:s.bf.length<=1000):zO 17 [kN s] [] (.tup [kN (WF s).1,kM (WF s).2]) []:=by
 obtain⟨op,dr,bf,gb⟩:=s;dsimp only at hb hl;have k1:=HR ⟨op,dr,bf,gb⟩ hl;have k2:=zJw bf hb hl gb 4 zB;have hlen:=HG (N:=4) (gM bf.length bf) ⟨0,gb,[]⟩ (by show 0<4;omega);unfold WF;dsimp only;generalize XC 4 (gM bf.length bf) ⟨0,gb,[]⟩=r at *;have hrl:=zA vB r.its;unfold stA at k2;cases op
 ·rw[zYo zZb];unfold kN at *;unfold kM;refine eM call17 λF hF=>?_
  refine zW k1 ?_;exact zL
 ·rw[zYp rfl];unfold kN at *;unfold kM;cases dr
  ·rw[zYo zZb,yA9];refine eM call17 λF hF=>?_
   refine zW k2 ?_;refine zA3 32 1055 3 rfl rfl rfl ?_;refine WW ?_;refine zI [] rfl rfl ?_ rfl
   show AV.tup [_,AV.agg [_,AV.sl false (List.take (r.its.map vB).length (r.its.map vB))]]=_
   rw[zYv];rfl
  ·rw[zYp rfl,show zD vB ([⟨15,0,[]⟩]++r.its)= .sl false ([.agg [iA 15,iA 0,zD yA []]]++r.its.map vB) by unfold zD;rw[zYz];rfl];refine eM call17 λF hF=>?_
   (have zc1:=k2;(repeat' (first|refine aT ?_|refine xR (λhc=>?_) (λhc=>?_)|refine wE (λhc=>?_)|(refine zE ?_;first|(refine yZ ?_;refine UG 18 rfl rfl rfl ?_;refine kH tok rfl rfl ?_))|refine SB ?_|fail))<;>clear zc1)
   refine zA3 17 1055 3 rfl rfl rfl ?_
   (have zc1:=k2;(repeat' (first|refine qS ?_|refine xR (λhc=>?_) (λhc=>?_)|refine wE (λhc=>?_)|(refine zE ?_;first|refine SM ?_)|fail))<;>clear zc1)
   refine zI [] rfl rfl ?_ rfl
   show AV.tup [_,AV.agg [_,AV.sl false (List.take ([AV.agg [iA 15,iA 0,zD yA []]]++r.its.map vB).length ([AV.agg [iA 15,iA 0,zD yA []]]++r.its.map vB))]]=_
   rw[zYv];rfl
theorem zCx (s:Ss) (hl:s.bf.length<=1000):zO 52 [kN s] [] (kN (if s.op=true then s else⟨true,false,[],false⟩)) []:=by
 obtain⟨op,dr,bf,gb⟩:=s;dsimp only at hl⊢;have k1:=HR ⟨op,dr,bf,gb⟩ hl;cases op
 ·rw[zYo zZb];unfold kN at *;refine eM call52 λF hF=>?_
  refine zW k1 ?_;exact zL
 ·rw[zYp rfl];unfold kN at *;refine eM call52 λF hF=>?_
  refine zW k1 ?_;exact zL
theorem zPe (s:Ss):zO 53 [kN s] [] (kN ⟨false,false,[],false⟩) []:=by
 unfold kN;refine eM call53 λF hF=>?_
 refine WW ?_;exact zL
theorem zUa (s:Ss) (hl:s.bf.length<=256) (x:List Int) (hx:x.length<=1000000):zO 54 [kN s,zD yA x] [] (kN (CG s x)) []:=by
 obtain⟨op,dr,bf,gb⟩:=s;dsimp only at hl;have k1:=HR ⟨op,dr,bf,gb⟩ (by dsimp only;omega);have k2:=zW3 bf hl gb x hx;unfold CG;dsimp only;unfold stA at k2;cases op
 ·rw[zYo zZb];unfold kN at *;refine eM call54 λF hF=>?_
  refine zW k1 ?_;exact zL
 ·rw[zYp rfl];unfold kN at *;cases hf:decide (UR bf.length x.length=x.length)
  ·rw[hf]at k2;rw[zYu (of_decide_eq_false hf),yBe];refine eM call54 λF hF=>?_
   refine zW k2 ?_;exact zL
  ·rw[hf]at k2;rw[zYw (λh=>h (yC3 hf)),yD9];refine eM call54 λF hF=>?_
   refine zW k2 ?_;exact zL
structure SsI (s:Ss):Prop where
 y:BY s.bf
 n:s.bf.length<=256
theorem zJx {s:Ss} (h:SsI s):SsI (WF s).1/\InS (WF s).2:=by
 have hn:=h.n;unfold WF;split
 ·refine⟨⟨λx hx=>h.y x (zZn hx),by dsimp only;rw[zZk];omega⟩,?_⟩;have hlen:=HG (N:=4) (gM s.bf.length s.bf) ⟨0,s.gb,[]⟩ (by show 0<4;omega);have hmem:=zCu (N:=4) (Pr:=ItK) (gM s.bf.length s.bf) ⟨0,s.gb,[]⟩ (λx hx=>by cases hx) (zPq h.y zB);generalize XC 4 (gM s.bf.length s.bf) ⟨0,s.gb,[]⟩=r at *;refine⟨?_,λx hx=>?_⟩
  ·dsimp only;rw[zYr];split
   ·simp only[zY2,zZz];omega
   ·simp only[zZz];omega
  ·rcases zZa.1 hx with hx|hx
   ·split at hx
    ·rw[zZu.1 hx];exact⟨kF,zY4 _,by dsimp only;omega,by dsimp only;omega⟩
    ·cases hx
   ·exact hmem x hx
 ·exact⟨h,zY4 _,λx hx=>by cases hx⟩
theorem zUb {s:Ss} (h:SsI s) {x:List Int} (hx:BY x):SsI (CG s x):=by
 refine⟨?_,zPs h.n x⟩;unfold CG;split
 ·intro y hy
  rcases zZa.1 hy with hy|hy
  ·exact h.y y hy
  ·exact hx y (zZ1 hy)
 ·exact h.y
end Av
end Go.Proofs.YtmamjhmoegjapaaGreat
