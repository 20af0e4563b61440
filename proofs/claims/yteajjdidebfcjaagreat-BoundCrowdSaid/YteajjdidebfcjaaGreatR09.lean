/- Part 9. -/
import Derived.Test.YteajjdidebfcjaaGreatR08
import Derived.Laws.BytesArg
import Derived.Laws.Strings
import Derived.Laws.StructEq
namespace Go.Proofs.YteajjdidebfcjaaGreat
namespace Av
set_option linter.all false
theorem jY.evo {K0:List Nat} {F:Fr K0} {h:yC} {β:vP} {w:World} {X:Nat->Prop} (hX:XOK F X) (G:yX X F.w0 F.h0 F.β0 w h β):GO F.w0 (xK F.X F.β0) F.h0 F.β0 w (xK X β) h β:=
 ⟨G.size,λb hb hd=>⟨G.keep b hb λk n hm=>hd (.inr ⟨k,n,hm⟩),λh'=>by
  rcases h' with hx|⟨k,n,hm⟩
  ·rcases hX.2 b hx with hx|hx
   ·exact hd (.inl hx)
   ·omega
  ·rcases G.own k b n hm with⟨k',n',h2⟩|h2
   ·exact hd (.inr ⟨k',n',h2⟩)
   ·omega⟩,G.bs,G.key⟩
structure UY {K0:List Nat} (F:Fr K0) (T:List (Nat×AV)) (a:Act) (l:Nat) (hc:List (Nat×xN)) (rec:Loop) (O X:Nat->Prop) (W:World):Prop where
 ex:∃Xc βc,XOK F Xc/\qV Xc (zC hc) βc W/\(∀t,zQ W (xK Xc βc) (zC hc) βc (zG T t) (a.eval (.tmp t)))/\jY F (zC hc) βc W/\
  (∃bs:List Nat,a.defers=bs.map (λb=>{target:= .collected b,args:= #[]})/\bs.Nodup/\∀b,b∈bs->Xc b/\F.w0.heap.size<=b/\W.heap[b]? =some (.deferred (some []))/\¬O b)/\
  (∀b,O b->Xc b/\F.w0.heap.size<=b/\¬F.X b)/\(∀b,Own βc b->X b)/\(∀b,Xc b->X b∨O b)/\Xc l
 lx:X l
 lo:¬O l
 lh:W.heap[l]? =some (.loop rec)
 ll:F.w0.heap.size<=l
 xl:∀b,X b->b<W.heap.size
 nd:∀k,zC hc k≠some .dead
section
variable {K0:List Nat} {F:Fr K0} {T:List (Nat×AV)} {a:Act} {l:Nat} {hc:List (Nat×xN)} {rec:Loop} {O O' X:Nat->Prop} {W W':World}
theorem UY.stab (C:UY F T a l hc rec O X W) (hs:W.heap.size<=W'.heap.size) (hk:∀b,b<W.heap.size->¬O b->W'.heap[b]? =W.heap[b]?) (ho:∀b,O' b->O b∨W.heap.size<=b) (hl:∀b,O' b->b<W'.heap.size) (o1:W'.os=W.os) (o2:W'.tape=W.tape) (o3:W'.output=W.output):UY F T a l hc rec O' X W':=by
 obtain⟨⟨Xc,βc,c1,c2,c3,c4,⟨bs,d1,d2,d3⟩,c6,c8,c10,c11⟩,lx,lo,lh,ll,xl,nd⟩:=C;have hlW:l<W.heap.size:=xl l lx;have own:∀k b n,(b,n)∈βc k->¬O b:=λk b n hm hO=>c2.free k b n hm (c6 b hO).1
 have E:GO W (xK Xc βc) (zC hc) βc W' (xK (λb=>(Xc b/\¬O b)∨O' b) βc) (zC hc) βc:=by
  refine⟨hs,λb hb hd=>⟨hk b hb λhO=>hd (.inl (c6 b hO).1),λh'=>?_⟩,λk b n hm=>?_,qO _ _⟩
  ·rcases h' with(hx|hx)|hx
   ·exact hd (.inl hx.1)
   ·rcases ho b hx with hO|hO
    ·exact hd (.inl (c6 b hO).1)
    ·omega
   ·exact hd (.inr hx)
  ·unfold wB World.shape?;rw[hk b (c2.lt b (.inr ⟨k,n,hm⟩)) (own k b n hm)]
 refine⟨⟨λb=>(Xc b/\¬O b)∨O' b,βc,⟨λb hb=> .inl ⟨c1.1 b hb,λhO=>(c6 b hO).2.2 hb⟩,λb hb=>?_⟩,⟨λk e he=>(c2.ent k e he).evo E Z λb n hm=>hk b (c2.lt b (.inr ⟨k,n,hm⟩)) (own k b n hm),c2.off,c2.disj,λk b n hm hx=>?_,λb hd=>?_⟩,λt=>(c3 t).evo E,⟨c4.knd,yBm c4.size hs,λb hb hi hn=>?_,c4.own,c4.pas,λk b n hm=>?_,o1.trans c4.os,o2.trans c4.tape,o3.trans c4.output⟩,
  ⟨bs,d1,d2,λb hb=>?_⟩,λb hb=>?_,c8,λb hb=>?_,.inl ⟨c11,lo⟩⟩,lx,λh=>?_,by rw[hk l hlW lo];exact lh,ll,λb hb=>yBl (xl b hb) hs,nd⟩
 ·rcases hb with hb|hb
  ·exact c1.2 b hb.1
  ·rcases ho b hb with hO|hO
   ·exact c1.2 b (c6 b hO).1
   ·exact .inr (yBm c4.size hO)
 ·rcases hx with hx|hx
  ·exact c2.free k b n hm hx.1
  ·rcases ho b hx with hO|hO
   ·exact own k b n hm hO
   ·have:=c2.lt b (.inr ⟨k,n,hm⟩);omega
 ·rcases hd with(hx|hx)|hx
  ·exact yBl (c2.lt b (.inl hx.1)) hs
  ·exact hl b hx
  ·exact yBl (c2.lt b (.inr hx)) hs
 ·rw[hk b (yBl hb c4.size) λhO=>by have:=(c6 b hO).2.1;omega];exact c4.keep b hb hi hn
 ·obtain⟨n',_,hm'⟩:=c4.pas k b n hm;rw[E.bs k b n' hm',c4.bs k b n hm]
 ·obtain⟨q1,q2,q3,q4⟩:=d3 b hb;refine⟨.inl ⟨q1,q4⟩,q2,by rw[hk b (c2.lt b (.inl q1)) q4];exact q3,λh=>?_⟩
  rcases ho b h with hO|hO
  ·exact q4 hO
  ·have:=c2.lt b (.inl q1);omega
 ·refine⟨.inr hb,?_⟩
  rcases ho b hb with hO|hO
  ·exact(c6 b hO).2
  ·exact⟨yBm c4.size hO,λhx=>by have:=c2.lt b (.inl (c1.1 b hx));omega⟩
 ·rcases hb with hb|hb
  ·exact(c10 b hb.1).imp id λhO=>absurd hO hb.2
  ·exact .inr hb
 ·rcases ho l h with hO|hO
  ·exact lo hO
  ·omega
def zMa (e:Exit) (c:Code):Prop:=(e= .ret/\c= .ret)∨∃id,e= .exit id/\c= .exit id
theorem UY.round {P:Program} {m:Nat} {ps:Array Tmp} {assign body:Code} {fn:FuncId} {bd:Nat} {Ks:List Nat} {ys:List AV} {cs:Array Value} {Rq:Exit->List (Nat×xN)->Prop} (hps:∀p,p∈ps.toList->p<m) (hm:a.tmps.size=m) (gs:m<=GS)
  (hrec:rec= {state:= .ready,pending:=none,fn:=fn,tmps:=a.tmps,params:=ps,assign:=assign,body:=body,defers:=bd}) (C:UY F T a l hc rec O X W) (hT:∀t h',wD Ks h' (zG T t)=zG T t) (hKs:∀k,k∈K0->k∈Ks)
  (hys:cs.size=ys.length) (hpl:ps.size=ys.length) (hrep:∀(j:Nat) v,ys[j]? =some v->xH W (λb=>X b∨O b) v (cs.getD j undef)) (hRq:∀e h,Rq e h->e= .normal∨e= .ret∨∃id,e= .exit id)
  (sim:∀(F1:Fr (yO hc)),F1.it=true->F1.ro=some l->vK P F1 m assign ⟨zDs ps.toList ys T,hc⟩ (λe s=>e= .normal/\∀(F2:Fr (yO s.h)),F2.it=true->F2.ro=some l->vK P F2 m body s (λe s'=>Rq e (wY Ks (zC s'.h))))):
  YieldAt Fence.wide 0 P l cs W λe W'=>(e= .returned (.bool true)/\∃X',cY X X' W W'/\∃h',Rq .normal h'/\UY F T a l h' rec O X' W')∨
   (e= .returned (.bool false)/\∃X',cY X X' W W'/\∃h' x c,zMa x c/\Rq x h'/\UY F T a l h' {rec with state:= .done,pending:=some c} O X' W'):=by
 obtain⟨⟨Xc,βc,c1,c2,c3,c4,⟨bs,d1,d2,d3⟩,c6,c8,c10,c11⟩,lx,lo,lh,ll,xl,nd⟩:=C;have hlW:l<W.heap.size:=xl l lx;subst hrec;refine⟨_,_,_,_,run_yield lh (by simpa using hys.trans hpl.symm),?_⟩;dsimp only;refine roundIn_of_wpIn (F:=Fence.wide) (n:=0) trivial ?_
 let F1:Fr (yO hc):=⟨Xc,W,βc,zC hc,λk b n hm=>by
  cases hk:zC hc k with
  |none=>rw[c2.off k hk]at hm;simp at hm
  |some e=>exact vT hk,λk e he=>vT he,some l,true,λ_=>False,λ_ _ _ _=>True,λ_ _ _ _ _ _ _ _ _ _ _ _ _ _=>trivial⟩
 have refl1:∀{K1:List Nat} (F:Fr K1),F.it=true->qV F.X F.h0 F.β0 F.w0->(∀k,F.h0 k≠some .dead)->jY F F.h0 F.β0 F.w0:=λF _ H nd=>
  ⟨λk e he=>by
   cases e with
   |dead=>exact absurd he (nd k)
   |box cs=>exact⟨cs,he⟩
   |obj cs=>exact⟨cs,he⟩
   |arr sz xs sl=>exact⟨xs,sl,he,yAb _⟩,yAb _,λ_ _ _ _=>rfl,λk b n hm=> .inl ⟨k,n,hm⟩,λk b n hm=>⟨n,yAb _,hm⟩,λ_ _ _ _=>rfl,rfl,rfl,rfl⟩
 have fold_size:∀(z:List (Nat×Value)) (tm:Array Value),(z.foldl (λtmps (p:Nat×Value)=>tmps.setIfInBounds p.1 p.2) tm).size=tm.size:=by
  intro z
  induction z with
  |nil=>exact λ_=>rfl
  |cons p z ih=>intro tm;rw[List.foldl_cons,ih];simp
 have hfold:(ps.zip cs).foldl (λtmps (p:Nat×Value)=>tmps.setIfInBounds p.1 p.2) a.tmps=(ps.toList.zip cs.toList).foldl (λtmps (p:Nat×Value)=>tmps.setIfInBounds p.1 p.2) a.tmps:=by
  rw[<-Array.foldl_toList,Array.toList_zip]
 have R1:xV F1 m ⟨zDs ps.toList ys T,hc⟩ {tmps:=(ps.zip cs).foldl (λtmps (p:Nat×Value)=>tmps.setIfInBounds p.1 p.2) a.tmps,defers:=[]} W:=by
  refine⟨⟨Xc,βc,⟨λ_ h=>h,λ_ h=> .inl h⟩,c2,λt=>?_,refl1 F1 Z c2 nd,λ_ _=>trivial,[],rfl,λ_=>rfl,yFr,λb hb=>by simp at hb⟩,nd,gs,by rw[hfold,fold_size];exact hm⟩;rw[hfold];refine LV ps.toList ys cs.toList T a.tmps (by simpa using hys.symm) (λj v c h1 h2=>?_) (λp hp=>by rw[hm];exact hps p hp) c3 t;have h3:=hrep j v h1;have e:cs.getD j undef=c:=gI OC;rw[e]at h3;exact .fz _ _ (h3.less λb hd=>hd.elim (c10 b) λho=> .inl (c8 b ho))
 refine Code.wpIn_mono (λe a1 w1 q=>?_) ((sim F1 Z Z).run _ _ R1);obtain⟨s,⟨rfl,hs⟩,⟨⟨X1,β1,hX1,H1,Ht1,K1,_,bs1,hd1,hb1,_⟩,nd1,gs1,hl1⟩⟩:=q;have:=hb1 Z;subst this;have G1:=K1.toGoes (λ_ h=>h) c2 H1 nd;have E1:=jY.evo hX1 G1;have hl1':w1.heap[l]? =W.heap[l]? :=K1.keep l hlW (λh=>h) λk n hm=>c2.free k l n hm c11
 have hX1l:X1 l:=hX1.1 l c11;refine⟨_,run_beginRound (hl1'.trans lh) Z,?_⟩;generalize hw2:w1.putObj l _=w2;have sz2:w2.heap.size=w1.heap.size:=by rw[<-hw2];simp
 have kp2:∀b,b≠l->w2.heap[b]? =w1.heap[b]? :=λb hb=>by rw[<-hw2];exact World.putObj_heap_other hb
 have lb2:w2.heap[l]? =some (.loop {state:= .busy,pending:=none,fn:=fn,tmps:=a.tmps,params:=ps,assign:=assign,body:=body,defers:=bd}):=by
  rw[<-hw2];exact World.putObj_heap_same (yBl hlW K1.size)
 have oth2:w2.os=w1.os/\w2.tape=w1.tape/\w2.output=w1.output:=by rw[<-hw2];exact⟨rfl,rfl,rfl⟩
 have kp2':∀b,b<w1.heap.size->¬X1 b->w2.heap[b]? =w1.heap[b]? :=λb _ hx=>kp2 b λe=>hx (e▸hX1l)
 have H1':=H1.turn (yB7 sz2.symm) kp2';have E2:=VB H1 (yB7 sz2.symm) kp2'
 let F2:Fr (yO s.h):=⟨X1,w2,β1,zC s.h,λk b n hm=>by
  cases hk:zC s.h k with
  |none=>rw[H1.off k hk]at hm;simp at hm
  |some e=>exact vT hk,λk e he=>vT he,some l,true,λ_=>False,λ_ _ _ _=>True,λ_ _ _ _ _ _ _ _ _ _ _ _ _ _=>trivial⟩
 have R2:xV F2 m s a1 w2:=⟨⟨X1,β1,⟨λ_ h=>h,λ_ h=> .inl h⟩,H1',λt=>(Ht1 t).evo E2,refl1 F2 Z H1' nd1,λ_ _=>trivial,[],hd1,λ_=>rfl,yFr,λb hb=>by simp at hb⟩,nd1,gs1,hl1⟩;refine Code.wpIn_mono (λe a2 w3 q=>?_) ((hs F2 Z Z).run _ _ R2);obtain⟨s3,hq,⟨⟨X3,β3,hX3,H3,_,K3,_⟩,nd3,_,_⟩⟩:=q;have G3:=K3.toGoes (λ_ h=>h) H1' H3 nd1;have E3:=jY.evo hX3 G3;have lb3:=(K3.keep l (by show l<w2.heap.size;rw[sz2];exact yBl hlW K1.size) (λh=>h) λk n hm=>H1.free k l n hm hX1l).trans lb2;have hl3:l<w3.heap.size:=yBl (by rw[sz2];exact yBl hlW K1.size) K3.size;have hX3l:X3 l:=hX3.1 l hX1l;have s13:W.heap.size<=w3.heap.size:=yBm K1.size (by rw[<-sz2];exact K3.size)
 have key:∀rec':Loop,∃X',cY X X' W (w3.putObj l (.loop rec'))/\UY F T a l (wY Ks (zC s3.h)) rec' O X' (w3.putObj l (.loop rec')):=by
  intro rec';generalize hw4:w3.putObj l (.loop rec')=w4;have sz4:w4.heap.size=w3.heap.size:=by rw[<-hw4];simp
  have kp4:∀b,b≠l->w4.heap[b]? =w3.heap[b]? :=λb hb=>by rw[<-hw4];exact World.putObj_heap_other hb
  have lb4:w4.heap[l]? =some (.loop rec'):=by rw[<-hw4];exact World.putObj_heap_same hl3
  have oth4:w4.os=w3.os/\w4.tape=w3.tape/\w4.output=w3.output:=by rw[<-hw4];exact⟨rfl,rfl,rfl⟩
  have kp4':∀b,b<w3.heap.size->¬X3 b->w4.heap[b]? =w3.heap[b]? :=λb _ hx=>kp4 b λe=>hx (e▸hX3l)
  obtain⟨H4,hv4⟩:=H3.restr Ks;have H5:=H4.turn (yB7 sz4.symm) kp4';have E5:=VB H4 (yB7 sz4.symm) kp4'
  have oc:∀b,X3 b->Xc b∨W.heap.size<=b:=λb hb=>by
   rcases hX3.2 b hb with h|h
   ·exact hX1.2 b h
   ·have h2:w2.heap.size<=b:=h;rw[sz2]at h2;exact .inr (yBm K1.size h2)
  have old:∀b,b<W.heap.size->b≠l->¬Own βc b->w4.heap[b]? =W.heap[b]? :=λb hb hne hno=>by
   rw[kp4 b hne]
   have h1:∀k n,(b,n)∉β1 k:=λk n hm=>by
    rcases K1.own k b n hm with⟨k',n',h⟩|h
    ·exact hno ⟨k',n',h⟩
    ·have:W.heap.size<=b:=h;omega
   have q1:=K3.keep b (by show b<w2.heap.size;rw[sz2];exact yBl hb K1.size) (λh=>h) h1;have q2:=K1.keep b hb (λh=>h) λk n hm=>hno ⟨k,n,hm⟩
   exact q1.trans ((kp2 b hne).trans q2)
  have KF:jY F (zC (wY Ks (zC s3.h))) (βr Ks β3) w4:=by
   have k1:jY F (zC s.h) β1 w1:=c4.goes G1 nd1 λk b n hm=>K1.pas k b n hm
   have k2:jY F (zC s.h) β1 w2:=k1.turn H1 sz2 kp2' (λb hb=>kp2 b λe=>by omega) oth2.1 oth2.2.1 oth2.2.2;have k3:jY F (zC s3.h) β3 w3:=k2.goes G3 nd3 λk b n hm=>K3.pas k b n hm
   have k4:=k3.restr Ks hKs;exact k4.turn H4 sz4 kp4' (λb hb=>kp4 b λe=>by omega) oth4.1 oth4.2.1 oth4.2.2
  refine⟨λb=>X b∨Own (βr Ks β3) b∨(X3 b/\¬O b),⟨by omega,λb hb hx=>⟨old b hb (λe=>hx (e▸lx)) λho=>hx (c8 b ho),λh'=>?_⟩,λb hb=> .inl hb,λb hb=>?_,?_,?_,?_⟩,⟨X3,βr Ks β3,⟨λb hb=>hX3.1 b (hX1.1 b (c1.1 b hb)),λb hb=>?_⟩,H5,λt=>?_,KF,⟨bs,d1,d2,λb hb=>?_⟩,λb hb=>?_,λb hb=> .inr (.inl hb),λb hb=>?_,hX3l⟩,.inl lx,lo,lb4,ll,λb hb=>?_,λk=>?_⟩
  ·rcases h' with h|⟨k,n,hm⟩|⟨h,hO⟩
   ·exact hx h
   ·have hm:=(qG hm).2
    rcases K3.own k b n hm with⟨k',n',h⟩|h
    ·rcases K1.own k' b n' h with⟨k2,n2,h⟩|h
     ·exact hx (c8 b ⟨k2,n2,h⟩)
     ·have:W.heap.size<=b:=h;omega
    ·have h2:w2.heap.size<=b:=h;have:=K1.size;have:W.heap.size<=w1.heap.size:=this;omega
   ·rcases oc b h with h|h
    ·exact(c10 b h).elim hx hO
    ·omega
  ·rcases hb with h|⟨k,n,hm⟩|⟨h,hO⟩
   ·have:=xl b h;omega
   ·rw[sz4];exact H3.lt b (.inr ⟨k,n,(qG hm).2⟩)
   ·rw[sz4];exact H3.lt b (.inl h)
  ·exact oth4.1.trans (K3.os.trans (oth2.1.trans K1.os))
  ·exact oth4.2.1.trans (K3.tape.trans (oth2.2.1.trans K1.tape))
  ·exact oth4.2.2.trans (K3.output.trans (oth2.2.2.trans K1.output))
  ·rcases oc b hb with h|h
   ·exact c1.2 b h
   ·exact .inr (yBm c4.size h)
  ·have:=hv4 _ _ ((((c3 t).evo E1).evo E2).evo E3);rw[hT]at this;exact this.evo E5
  ·obtain⟨q1,q2,q3,q4⟩:=d3 b hb;refine⟨hX3.1 b (hX1.1 b q1),q2,?_,q4⟩;rw[old b (c2.lt b (.inl q1)) (λe=>by rw[e,lh]at q3;cases q3) λ⟨k,n,hm⟩=>c2.free k b n hm q1];exact q3
  ·exact⟨hX3.1 b (hX1.1 b (c6 b hb).1),(c6 b hb).2⟩
  ·by_cases hO:O b
   ·exact .inr hO
   ·exact .inl (.inr (.inr ⟨hb,hO⟩))
  ·rcases hb with h|⟨k,n,hm⟩|⟨h,hO⟩
   ·have:=xl b h;omega
   ·rw[sz4];exact H3.lt b (.inr ⟨k,n,(qG hm).2⟩)
   ·rw[sz4];exact H3.lt b (.inl h)
  ·rw[wE];split
   ·intro h;rw[yAo]at h;obtain⟨e,he,h2⟩:=h
    cases e with
    |dead=>exact nd3 k he
    |box cs=>cases h2
    |obj cs=>cases h2
    |arr sz xs st=>obtain⟨xs2,fl2,h4,_⟩:=fW Ks (zC s3.h) sz xs st;rw[h4]at h2;cases h2
   ·intro h;cases h
 rcases hRq e _ hq with rfl|rfl|⟨id,rfl⟩
 ·obtain⟨X',q1,q2⟩:=key {state:= .ready,pending:=none,fn:=fn,tmps:=a.tmps,params:=ps,assign:=assign,body:=body,defers:=bd};exact⟨_,_,run_endRound none lb3,.inl ⟨rfl,X',q1,_,hq,q2⟩⟩
 ·obtain⟨X',q1,q2⟩:=key {state:= .done,pending:=some .ret,fn:=fn,tmps:=a.tmps,params:=ps,assign:=assign,body:=body,defers:=bd};exact⟨_,_,run_endRound (some .ret) lb3,.inr ⟨rfl,X',q1,_,.ret,.ret,.inl ⟨rfl,rfl⟩,hq,q2⟩⟩
 ·obtain⟨X',q1,q2⟩:=key {state:= .done,pending:=some (.exit id),fn:=fn,tmps:=a.tmps,params:=ps,assign:=assign,body:=body,defers:=bd};exact⟨_,_,run_endRound (some (.exit id)) lb3,.inr ⟨rfl,X',q1,_,.exit id,.exit id,.inr ⟨id,rfl,rfl⟩,hq,q2⟩⟩
end
def UZ (w:World) (o:Obj) (b:Nat) (h:b<w.heap.size):(w.alloc o).heap[b]? =w.heap[b]? :=by
 show(w.heap.push o)[b]? =_
 rw[yFo,zZ7 (by omega)]
theorem jY.grow {K0:List Nat} {F:Fr K0} {h:yC} {β:vP} {w w':World} {X:Nat->Prop} (K:jY F h β w) (H:qV X h β w) (hs:w.heap.size<=w'.heap.size) (hk:∀b,b<w.heap.size->w'.heap[b]? =w.heap[b]?) (o1:w'.os=w.os) (o2:w'.tape=w.tape) (o3:w'.output=w.output):jY F h β w':=
 ⟨K.knd,yBm K.size hs,λb hb hi hn=>by rw[hk b (yBl hb K.size)];exact K.keep b hb hi hn,K.own,K.pas,λk b n hm=>by
  rw[<-K.bs k b n hm];obtain⟨n',_,hm'⟩:=K.pas k b n hm;unfold wB World.shape?
  rw[hk b (H.lt b (.inr ⟨k,n',hm'⟩))],o1.trans K.os,o2.trans K.tape,o3.trans K.output⟩
section
variable {P:Program} {K0:List Nat} {F:Fr K0} {m:Nat} {st:St} {T:List (Nat×AV)} {a:Act} {l:Nat} {hc:List (Nat×xN)} {rec:Loop} {O X:Nat->Prop} {W:World}
theorem UY.rel (C:UY F T a l hc rec O X W) (hit:F.it=false) (hT:∀i,zG T GS≠ .gh i) (gs:m<=GS) (hl:a.tmps.size=m) (o:Obj):xV F m ⟨T,hc⟩ a (W.putObj l o):=by
 obtain⟨⟨Xc,βc,c1,c2,c3,c4,⟨bs,d1,d2,d3⟩,c6,c8,c10,c11⟩,lx,lo,lh,ll,xl,nd⟩:=C;have sz:(W.putObj l o).heap.size=W.heap.size:=by simp
 have kp:∀b,b≠l->(W.putObj l o).heap[b]? =W.heap[b]? :=λb hb=>World.putObj_heap_other hb
 have kp':∀b,b<W.heap.size->¬Xc b->(W.putObj l o).heap[b]? =W.heap[b]? :=λb _ hx=>kp b λe=>hx (e▸c11)
 refine⟨⟨Xc,βc,c1,c2.turn (yB7 sz.symm) kp',λt=>(c3 t).evo (VB c2 (yB7 sz.symm) kp'),c4.turn c2 sz kp' (λb hb=>kp b λe=>by omega) Z Z Z,λi hi=>absurd hi (hT i),bs,d1,(λh=>by rw[hit]at h;cases h),d2,λb hb=>?_⟩,nd,gs,hl⟩;obtain⟨q1,q2,q3,q4⟩:=d3 b hb;exact⟨q1,q2,by rw[kp b λe=>by rw[e,lh]at q3;cases q3];exact q3⟩
def rfQ (Ks:List Nat) (h':List (Nat×xN)) (p:Prop) (Q:Exit->St->Prop) (T:List (Nat×AV)):Exit->St->Prop
 | .normal,s=>wY Ks (zC s.h)=h'/\p
 | .ret,s=>Q .ret ⟨T,wY Ks (zC s.h)⟩
 | .exit id,s=>Q (.exit id) ⟨T,wY Ks (zC s.h)⟩
 |_,_=>False
theorem uE {g:Operand} {ps:Array Tmp} {assign body:Code} {f:Nat} {caps:List AV} {h0:List (Nat×xN)} {xs:List (List AV)} {Q:Exit->St->Prop} (hF:F.ro=none/\F.it=false) (hit:ZE P f caps h0 xs) (hg:yJ (zG st.tm) g= .fn f caps)
  (Ks ts:List Nat) (hKs:K0.all (Ks.contains ·)=true) (hdis:Ks.all (λk=>!(yO h0).contains k)=true) (hh0:(yO h0).map (zC st.h)=(yO h0).map (zC h0)) (hcl:h0.all (λp=>clE (yO h0) p.2)=true)
  (hcap:(kM caps).all ((yO h0).contains ·)=true) (hts:ts.all (λt=>(zG st.tm t).refs.all (λk=>!(yO h0).contains k))=true)
  (hks:Ks.all (λk=>match zC st.h k with|some (.box cs)=>(kM cs).all (λj=>!(yO h0).contains j)|_=>true)=true) (hgs:ts.all (λt=>!(Nat.beq t GS))=true) (hps:ps.toList.all (Nat.blt · m)=true) (hpl:∀(i:Nat) ys,xs[i]? =some ys->ps.size=ys.length)
  (H:Nat->List (Nat×xN)) (I:Nat->Prop) {T:List (Nat×AV)} (e0:restr Ks ts st=⟨T,H 0⟩) (i0:I 0)
  (round:∀(i:Nat) ys l,xs[i]? =some ys->I i->∀(F1:Fr (yO (H i))),F1.it=true->F1.ro=some l->vK P F1 m assign ⟨zDs ps.toList ys T,H i⟩ (λe s=>e= .normal/\∀(F2:Fr (yO s.h)),F2.it=true->F2.ro=some l->vK P F2 m body s (rfQ Ks (H (i+1)) (I (i+1)) Q T)))
  (done:I xs.length->Q .normal ⟨T,H xs.length⟩) (hnn:nnH st.h=true:=by rfl):vK P F m (.rangeFunc g ps assign body) st Q:=⟨λa w R=>by
 rw[hF.1]
 change Code.wpIn Fence.wide 0 P _ _ a w
 obtain⟨⟨X0,β,hX,HH,Ht,KK,_,bs,hds,_,hbn,hbs⟩,nd,gs,hl⟩:=R
 have hK:∀k,k∈yO h0->zC st.h k=zC h0 k:=λk hk=>by
  obtain⟨i,hi⟩:=yDw hk;have:=yA6 (·[i]?) hh0;simpa [hi]using this
 have hclosed:∀k e,zC h0 k=some e->clE (yO h0) e=true:=λk e hk=>by
  obtain⟨p,hp,he⟩:=fY hk;have:=yAm.1 hcl p hp;rw[he]at this;exact this
 have hdis':∀k,k∈yO h0->¬k∈Ks:=λk h1 h2=>by
  have:=yAm.1 hdis k h2;simp at this;exact this h1
 have hent:∀k cs,k∈Ks->zC st.h k=some (.box cs)->∀j,j∈kM cs->¬j∈yO h0:=λk cs hk he j hj h1=>by
  have:=yAm.1 hks k hk;rw[he]at this;have:=yAm.1 this j hj;simp at this;exact this h1
 have hK0:∀k,k∈K0->k∈Ks:=λk hk=>by simpa using yAm.1 hKs k hk
 have hTt:T=ts.map λt=>(t,wD Ks (zC st.h) (zG st.tm t)):=by have:=yA6 St.tm e0;exact this.symm
 have hH0:wY Ks (zC st.h)=H 0:=yA6 St.h e0
 have hlook:∀t,zG T t=if t∈ts then wD Ks (zC st.h) (zG st.tm t)else .bot:=λt=>by
  rw[<-fX Ks ts st t,e0]
 have hTi:∀t h',wD Ks h' (zG T t)=zG T t:=λt h'=>by
  rw[hlook];split
  ·exact zMh _ _ _ _
  ·rfl
 have hTg:∀i,zG T GS≠ .gh i:=λi=>by
  rw[hlook];split
  ·rename_i h;have:=yAm.1 hgs GS h;simp at this
  ·intro h;cases h
 have hfv:=gJ Ht g;rw[hg]at hfv
 obtain⟨cv,hfx,hcvl,hcv⟩:∃cv:Array Value,a.eval g= .func (.func f) #[] cv/\cv.size=caps.length/\∀(i:Nat) v,caps[i]? =some v->zQ w (xK X0 β) (zC st.h) β v (cv.getD i undef):=by
  generalize a.eval g=cx at hfv
  cases hfv with
  |fz _ _ hf=>cases hf
  |fn _ _ c hl hh=>exact⟨c,rfl,hl,hh⟩
 refine wpIn_rangeFunc (F:=Fence.wide) (n:=0) λfn _=>?_
 generalize hrec:({state:= .ready,pending:=none,fn:=fn,tmps:=a.tmps,params:=ps,assign:=assign,body:=body,defers:=w.heap.size}:Loop)=rec;obtain⟨w1,hw1⟩:∃w1,w1=(w.alloc (.deferred (some []))).alloc (.loop rec):=⟨_,rfl⟩;have sz1:w1.heap.size=w.heap.size+2:=by rw[hw1];simp
 have kp1:∀b,b<w.heap.size->w1.heap[b]? =w.heap[b]? :=λb hb=>by rw[hw1,UZ _ _ b vA,UZ _ _ b hb]
 have hbd:w1.heap[w.heap.size]? =some (.deferred (some [])):=by rw[hw1,UZ _ _ _ zU];exact World.alloc_heap_new _ _
 have hlp:w1.heap[w.heap.size+1]? =some (.loop rec):=by
  rw[hw1];have:=World.alloc_heap_new (w.alloc (.deferred (some []))) (.loop rec);simpa using this
 have oth1:w1.os=w.os/\w1.tape=w.tape/\w1.output=w.output:=by rw[hw1];exact⟨rfl,rfl,rfl⟩
 have hent1:(Instr.enterLoop fn a.tmps ps assign body none).run P w= .ok (w.heap.size+1,[{target:= .collected w.heap.size,args:= #[]}]) w1:=by
  rw[hw1,<-hrec];exact run_enterLoop_outer fn a.tmps ps assign body
 generalize hl0:w.heap.size+1=l at hlp hent1
 let a':Act:={a with defers:=[{target:= .collected w.heap.size,args:= #[]}]++a.defers}
 let J:Nat->(Nat->Prop)->(Nat->Prop)->World->Prop:=λi O X W=>(i<=xs.length/\I i/\UY F T a' l (H i) rec O X W)∨
  (xs.length<i/\∃h' x c,zMa x c/\Q x ⟨T,h'⟩/\UY F T a' l h' {rec with state:= .done,pending:=some c} O X W)
 have Jst:∀i O X w w' O',J i O X w->w.heap.size<=w'.heap.size->(∀b,b<w.heap.size->¬O b->w'.heap[b]? =w.heap[b]?)->(∀b,O' b->O b∨w.heap.size<=b)->(∀b,O' b->b<w'.heap.size)->w'.os=w.os->w'.tape=w.tape->w'.output=w.output->J i O' X w':=by
  rintro i O X v v' O' (⟨h1,hI,h2⟩|⟨h1,h',x,c,h2,h3,h4⟩) q1 q2 q3 q4 q5 q6 q7
  ·exact .inl ⟨h1,hI,h2.stab q1 q2 q3 q4 q5 q6 q7⟩
  ·exact .inr ⟨h1,h',x,c,h2,h3,h4.stab q1 q2 q3 q4 q5 q6 q7⟩
 let O0:Nat->Prop:=Own (βr (yO h0) β)
 let Xa:Nat->Prop:=λb=>X0 b∨∃k n,k∈yO h0/\(b,n)∈β k
 let Xc:Nat->Prop:=λb=>Xa b∨b=w.heap.size∨b=l
 let Xi:Nat->Prop:=λb=>X0 b∨Own (βr Ks β) b
 let X1:Nat->Prop:=λb=>Xi b∨b=w.heap.size∨b=l
 have hOlt:∀b,O0 b->b<w.heap.size:=λb ⟨k,n,hm⟩=>HH.lt b (.inr ⟨k,n,(qG hm).2⟩)
 have hXalt:∀b,Xa b->b<w.heap.size:=λb hb=>hb.elim (λh=>HH.lt b (.inl h)) λ⟨k,n,_,hm⟩=>HH.lt b (.inr ⟨k,n,hm⟩)
 have hXilt:∀b,Xi b->b<w.heap.size:=λb hb=>hb.elim (λh=>HH.lt b (.inl h)) λ⟨k,n,hm⟩=>HH.lt b (.inr ⟨k,n,(qG hm).2⟩)
 have hOX:∀b,O0 b->¬X0 b:=λb ⟨k,n,hm⟩ hx=>HH.free k b n (qG hm).2 hx
 obtain⟨H1,hv1⟩:=HH.restrX (X':=Xa) Ks (yO h0) (λb hb=>hb) hdis' (zMg hnn) hent
 have Q1:cY Xa Xc w w1:=⟨by omega,λb hb hx=>⟨kp1 b hb,λh=>by
  rcases h with h|h|h
  ·exact hx h
  ·omega
  ·omega⟩,λb hb=> .inl hb,λb hb=>by
  rcases hb with h|h|h
  ·have:=hXalt b h;omega
  ·omega
  ·omega,oth1.1,oth1.2.1,oth1.2.2⟩
 obtain⟨H2,hv2⟩:=zZw (Xc:=Xi) HH hK hclosed (λb hb=>by
  rcases hb with h|⟨k,n,hm⟩
  ·exact .inl h
  ·obtain⟨hk,hm⟩:=qG hm
   exact .inr ⟨k,n,λh=>hdis' k h hk,hm⟩)
 have Q2:cY Xi X1 w w1:=⟨by omega,λb hb hx=>⟨kp1 b hb,λh=>by
  rcases h with h|h|h
  ·exact hx h
  ·omega
  ·omega⟩,λb hb=> .inl hb,λb hb=>by
  rcases hb with h|h|h
  ·have:=hXilt b h;omega
  ·omega
  ·omega,oth1.1,oth1.2.1,oth1.2.2⟩
 have C0:UY F T a' l (H 0) rec O0 X1 w1:=by
  rw[<-hH0];refine⟨⟨Xc,βr Ks β,⟨λb hb=> .inl (.inl (hX.1 b hb)),λb hb=>?_⟩,Q1.hok H1,λt=>?_,(KK.restr Ks hK0).grow H1 (by omega) kp1 oth1.1 oth1.2.1 oth1.2.2,⟨w.heap.size::bs,?_,?_,λb hb=>?_⟩,λb hb=>?_,λb hb=> .inl (.inr hb),λb hb=>?_,.inr (.inr Z)⟩,.inr (.inr Z),λh=>?_,hlp,?_,Q2.lt,λk=>?_⟩
  ·rcases hb with(h|⟨k,n,hk,hm⟩)|h|h
   ·exact hX.2 b h
   ·rcases KK.own k b n hm with⟨k',n',h⟩|h
    ·exfalso;obtain⟨n'',_,hm'⟩:=KK.pas k' b n' h;have:=HH.disj k k' b n n'' hm hm';subst this;exact hdis' k hk (hK0 k (F.hK k b n' h))
    ·exact .inr h
   ·exact .inr (by have:=KK.size;omega)
   ·exact .inr (by have:=KK.size;omega)
  ·rw[hlook];split
   ·rename_i ht
    exact(hv1 _ _ (λj hj h1=>by
     have:=yAm.1 hts t ht;have:=yAm.1 this j hj;simp at this
     exact this h1) (Ht t)).evo (Q1.evo H1)
   ·exact .fz _ _ (.bot _)
  ·show [_]++a.defers=_
   rw[hds];rfl
  ·refine yD3.2 ⟨λh=>?_,hbn⟩;have:=HH.lt _ (.inl (hbs _ h).1);omega
  ·rcases yBd.1 hb with rfl|hb
   ·exact⟨.inr (.inl Z),KK.size,hbd,λh=>by have:=hOlt _ h;omega⟩
   ·obtain⟨q1,q2,q3⟩:=hbs b hb;exact⟨.inl (.inl q1),q2,by rw[kp1 b (HH.lt b (.inl q1))];exact q3,λh=>hOX b h q1⟩
  ·obtain⟨k,n,hm⟩:=hb;obtain⟨hk,hm⟩:=qG hm;refine⟨.inl (.inr ⟨k,n,hk,hm⟩),?_,λh=>HH.free k b n hm (hX.1 b h)⟩
   rcases KK.own k b n hm with⟨k',n',h⟩|h
   ·exfalso;obtain⟨n'',_,hm'⟩:=KK.pas k' b n' h;have:=HH.disj k k' b n n'' hm hm';subst this;exact hdis' k hk (hK0 k (F.hK k b n' h))
   ·exact h
  ·rcases hb with(h|⟨k,n,hk,hm⟩)|h|h
   ·exact .inl (.inl (.inl h))
   ·exact .inr ⟨k,n,by rw[ZZ hk];exact hm⟩
   ·exact .inl (.inr (.inl h))
   ·exact .inl (.inr (.inr h))
  ·have:=hOlt _ h;omega
  ·have:=KK.size;omega
  ·rw[wE];split
   ·intro h;rw[yAo]at h;obtain⟨e,he,h2⟩:=h
    cases e with
    |dead=>exact nd k he
    |box cs=>cases h2
    |obj cs=>cases h2
    |arr sz xs fl=>obtain⟨xs2,fl2,h4,_⟩:=fW Ks (zC st.h) sz xs fl;rw[h4]at h2;cases h2
   ·intro h;cases h
 let Fi:Fr (yO h0):=⟨X1,w1,βr (yO h0) β,zC h0,λk b n hm=>(qG hm).1,λk e he=>vT he,none,true,X1,J,Jst⟩
 have call:=hit.sim l cv Fi ⟨rfl,λ_ h=>h⟩ rfl Z hcvl (Q2.hok H2) (λi v hv=>(hv2 v _ (hcv i v hv) (λk hk=>by
   have:=yAm.1 hcap k (wI hv hk)
   simpa using this)).evo (Q2.evo H2)) (.inl ⟨yAp _,i0,C0⟩) (by
  intro i ys X O W cs hys hj hcs hrep;have hilt:i<xs.length:=(yAu.1 hys).1
  rcases hj with⟨_,hI,C⟩|⟨h,_⟩
  case inr=>omega
  have hd:=C.round (P:=P) (m:=m) (Ks:=Ks) (ys:=ys) (cs:=cs) (Rq:=λe h'=>(e= .normal/\h'=H (i+1)/\I (i+1))∨((e= .ret∨∃id,e= .exit id)/\Q e ⟨T,h'⟩)) (λp hp=>by simpa using yAm.1 hps p hp) (show a'.tmps.size=m from hl) gs hrec.symm hTi hK0 hcs (hpl i ys hys) hrep
   (λe h hq=>by
    rcases hq with⟨rfl,_⟩|⟨h|h,_⟩
    ·exact .inl Z
    ·exact .inr (.inl h)
    ·exact .inr (.inr h)) (λF1 f1 f2=>(round i ys l hys hI F1 f1 f2).mono λe s ⟨he,hb⟩=>⟨he,λF2 g1 g2=>(hb F2 g1 g2).mono λe' s' hq=>by
     cases e' with
     |normal=>exact .inl ⟨rfl,hq⟩
     |ret=>exact .inr ⟨.inl Z,hq⟩
     |exit id=>exact .inr ⟨.inr ⟨id,rfl⟩,hq⟩
     |goto t=>exact hq.elim
     |panic c=>exact hq.elim
     |outgrown=>exact hq.elim⟩)
  obtain⟨fn',tm',as',bo',h1,h2⟩:=hd;refine⟨fn',tm',as',bo',h1,RoundIn.mono h2 ?_⟩;rintro e W' (⟨he,X',q,h',hq,C'⟩|⟨he,X',q,h',x,c,hx,hq,C'⟩)
  ·refine .inl ⟨he,X',q,.inl ⟨by omega,?_⟩⟩
   rcases hq with⟨_,rfl,hI'⟩|⟨h|⟨id,h⟩,_⟩
   ·exact⟨hI',C'⟩
   ·cases h
   ·cases h
  ·refine .inr ⟨he,X',q,.inr ⟨by omega,h',x,c,hx,?_,C'⟩⟩
   rcases hq with⟨h,_⟩|⟨_,h⟩
   ·rcases hx with⟨rfl,_⟩|⟨id,rfl,_⟩<;>cases h
   ·exact h)
 refine⟨l,[{target:= .collected w.heap.size,args:= #[]}],w1,{target:= .fn (.func f) cv,args:= #[.func (.yield l) #[] #[]]},w1,f, #[.func (.yield l) #[] #[]]++cv,w1,hent1,?_,λ_ _=>trivial,(by simp only[invoke];exact hit.able _ _),λh=>by simp[Fence.wide]at h,?_⟩
 ·unfold resolve rangeCall;dsimp only;rw[hfx];simp[Deferred.ofValue,Act.eval]
 ·refine callsIn_wide.2 (Calls.mono call ?_);rintro e w' ⟨⟨v,rfl⟩,i,O,X,hj,hi⟩;have len':a'.tmps.size=m:=hl
  rcases hj with⟨h1,hI,C⟩|⟨h1,h',x,c,hx,hq,C⟩
  ·obtain rfl:i=xs.length:=by omega
   refine⟨_,_,run_endLoop C.lh (by rw[<-hrec];intro h;cases h),?_⟩;rw[show rec.pending=none by rw[<-hrec]];exact⟨_,done hI,C.rel hF.2 hTg gs len' _⟩
  ·refine⟨_,_,run_endLoop C.lh (by intro h;cases h),?_⟩;have R:=C.rel hF.2 hTg gs len' (.loop {({rec with state:= .done,pending:=some c}:Loop)with state:= .exhausted})
   rcases hx with⟨rfl,rfl⟩|⟨id,rfl,rfl⟩
   ·exact wpIn_ret ⟨_,hq,R⟩
   ·exact wpIn_exit ⟨_,hq,R⟩⟩
end
def byA (n:Int):AV:= .s (.int .u8 n)
def eqY (a b:List Int):Bool:=(strOfNums a).toList==(strOfNums b).toList
def BY (l:List Int):Prop:=∀x∈l,0<=x/\x<256
def OF (a:List Int):(strOfNums a).toList=a.map λn=>UInt8.ofNat n.toNat:=by
 rw[ByteArray.toList_eq];rfl
def zVz (a b:List Int):eqY a b=decide ((a.map λn=>UInt8.ofNat n.toNat)=b.map λn=>UInt8.ofNat n.toNat):=by
 unfold eqY;rw[OF,OF];rw[yEk];simp
def CN (a:List Int):eqY a a=true:=by rw[zVz];simp
def fH (m n:Int):Int:=IntKind.i64.wrap (BitVec.ofInt IntKind.i64.bits m &&& BitVec.ofInt IntKind.i64.bits n).toNat
def orI (m n:Int):Int:=IntKind.i64.wrap (BitVec.ofInt IntKind.i64.bits m ||| BitVec.ofInt IntKind.i64.bits n).toNat
def zV0 (m n:Int):Int:=IntKind.i64.wrap (BitVec.ofInt IntKind.i64.bits m &&& ~~~BitVec.ofInt IntKind.i64.bits n).toNat
section
variable {P:Program} {TT:List TI} {tm:List (Nat×AV)} {h:List (Nat×xN)} {tx ty:Nat} {x y:Operand}
def zMb {m n:Int} (hx:yJ (zG tm) x= .s (.int .i64 m)) (hy:yJ (zG tm) y= .s (.int .i64 n)):wM P ⟨tm,h⟩ (.binOp .and tx x y ty) (.s (.int .i64 (fH m n))) [] [] []:=RU hx hy
def zQp {m n:Int} (hx:yJ (zG tm) x= .s (.int .i64 m)) (hy:yJ (zG tm) y= .s (.int .i64 n)):wM P ⟨tm,h⟩ (.binOp .or tx x y ty) (.s (.int .i64 (orI m n))) [] [] []:=HB hx hy
def zMc {m n:Int} (hx:yJ (zG tm) x= .s (.int .i64 m)) (hy:yJ (zG tm) y= .s (.int .i64 n)):wM P ⟨tm,h⟩ (.binOp .andNot tx x y ty) (.s (.int .i64 (zV0 m n))) [] [] []:=zA3 hx hy
def LS {a b:List Int} (hx:yJ (zG tm) x= .s (.string (strOfNums a))) (hy:yJ (zG tm) y= .s (.string (strOfNums b))):wM P ⟨tm,h⟩ (.binOp .eql tx x y ty) (.s (.bool (eqY a b))) [] [] []:=TU hx hy (.inl ⟨rfl,rfl⟩)
def LT {a b:List Int} (hx:yJ (zG tm) x= .s (.string (strOfNums a))) (hy:yJ (zG tm) y= .s (.string (strOfNums b))):wM P ⟨tm,h⟩ (.binOp .neq tx x y ty) (.s (.bool (!eqY a b))) [] [] []:=TU hx hy (.inr ⟨rfl,rfl⟩)
def CO (hP:uI P TT) {src dst e:Nat} {ts te td:TI} {nn:Bool} {xs:List AV} {l:List Int} (hs:TT[src]? =some ts) (hsd:ts.d= .slice e) (he:TT[e]? =some te) (hek:te.d= .int .u8) (hd:TT[dst]? =some td) (hdd:td.d= .string)
  (hx:yJ (zG tm) x= .sl nn xs) (hl:xs=l.map byA):wM P ⟨tm,h⟩ (.convert src dst x) (.s (.string (strOfNums l))) [] [] []:=
 yK λo X tm h w β a ho hg _ HH Ht=>by
  obtain⟨dst',op',type,pos,after,guard⟩:=o;dsimp only at ho;subst ho;have h1:=hH Ht hg (x:=x) vY hx;obtain⟨_,u1,_,_,hu1,_,hd1,_⟩:=wN (hP _ _ hs);obtain⟨_,u2,_,_,hu2,_,hd2,_⟩:=wN (hP _ _ he);obtain⟨_,u3,_,_,hu3,_,hd3,_⟩:=wN (hP _ _ hd);obtain rfl:=vN (hd1.symm.trans hsd);obtain rfl:=UX (hd2.symm.trans hek);obtain rfl:=zFb (hd3.symm.trans hdd);subst hl;refine⟨.string (strOfNums l),?_,.fz _ _ (.s _)⟩
  have key:(convert src dst (a.eval x)).run P w= .ok (.string (strOfNums l)) w:=by
   generalize a.eval x=cx at h1
   cases h1 with
   | fz _ _ hf=>
    generalize hxs:l.map byA=xs at hf
    cases hf with
    | nil b cap=>
     obtain rfl:l=[]:=by cases l with
      |nil=>rfl
      |cons z l=>simp at hxs
     cases b with
     |none=>exact run_convert_bytes_nil w src e hu1 hu2 0 cap dst hu3
     |some b=>
      rw[run_convert_bytes_string w src dst e _ 0 cap hu1 hu2 hu3];simp[Conv.bytesToString,loadCells];rfl
    | nil1 b cap=>
     obtain rfl:l=[]:=by cases l with
      |nil=>rfl
      |cons z l=>simp at hxs
     rw[run_convert_bytes_string w src dst e _ 0 cap hu1 hu2 hu3];simp[Conv.bytesToString,loadCells];rfl
    | sl _ _ b o sz cap f hx hL hcc hh=>
     subst hxs;have hat:∀i,i<l.length->(l.map byA)[i]? =some (byA (l.getD i 0)):=λi hi=>by simp[List.getD,hi]
     have hsz:sz=1:=by
      cases l with
      |nil=>exact absurd Z hx
      |cons z l=>exact(hL.wide 0 (byA z) Z).symm
     subst hsz
     have:=run_convert_bytes_arg (P:=P) w src e hu1 hu2 b o (l.map byA).length cap l zU (λi hi=>by
      have hi':i<l.length:=by simpa using hi
      have h2:=hL.cell i 0 (by simpa using hi') (by omega);have h3:=(hh i _ 0 (byA (l.getD i 0)) (hat i hi') Z);rw[show o+i=o+i*1+0 by omega,h2];unfold byA at h3;generalize f i 0=c at h3;cases h3
      rfl) dst hu3
     exact this
  simp[execOp,key]
end
section
variable {P:Program} {TT:List TI} {K0:List Nat} {F:Fr K0} {m:Nat} {ops:Array Oper} {rest:List Oper} {Q:List FP->St->Prop} {tm:List (Nat×AV)} {h:List (Nat×xN)} {dr:Bool} {fs:List FP}
variable {ty:Nat} {pos:String} {after:Array Edge} {t:Nat}
def fB {T:Nat} {x:Operand} {lo hi mx:Option Operand} {st:St} (hk:zX P F m ops dr (⟨some t,.slice T x lo hi mx,ty,pos,after,none⟩::rest) st fs Q):zX P F m ops dr (⟨some t,.slice T x lo hi mx,ty,pos,after,none⟩::rest) st fs Q:=hk
def HM (hP:uI P TT) {T e:Nat} {x l:Operand} {ti te:TI} {nn:Bool} {xs ys:List AV} {k:IntKind} {i:Int} (hx:yJ (zG tm) x= .sl nn xs) (hl:yJ (zG tm) l= .s (.int k i)) (hT:TT[T]? =some ti) (hd:ti.d= .slice e) (he:TT[e]? =some te)
  (hsz:∀y,xs[0]? =some y->y.cells.length=te.size) (h0:0<=i) (h1:i<=xs.length) (hy:xs.drop i.toNat=ys) (hm:Nat.blt t m=true) (hk:zX P F m ops dr rest ⟨(t,.sl nn ys)::tm,h⟩ (⟨true,[],[]⟩::fs) Q):
  zX P F m ops dr (⟨some t,.slice T x (some l) none none,ty,pos,after,none⟩::rest) ⟨tm,h⟩ fs Q:=by
 have:=cP (P:=P) (st:=⟨tm,h⟩) (lo:=some l) (hi:=none) (l:=i.toNat) (r:=xs.length) hP hx hT hd he ⟨k,i,hl,by omega⟩ rfl (by omega) (yAb _) hsz;rw[show(xs.drop i.toNat).take (xs.length-i.toNat)=ys by rw[<-hy];exact yAj zU]at this;exact wG this hm hk
def zV1 (hP:uI P TT) {T e:Nat} {x l:Operand} {ti te:TI} {nn:Bool} {xs ys:List AV} {k:IntKind} {i:Int} (hx:yJ (zG tm) x= .sl nn xs) (hl:yJ (zG tm) l= .s (.int k i)) (hT:TT[T]? =some ti) (hd:ti.d= .slice e) (he:TT[e]? =some te)
  (hsz:∀y,xs[0]? =some y->y.cells.length=te.size) (h0:0<=i) (h1:i<=xs.length) (hy:xs.take i.toNat=ys) (hm:Nat.blt t m=true) (hk:zX P F m ops dr rest ⟨(t,.sl nn ys)::tm,h⟩ (⟨true,[],[]⟩::fs) Q):
  zX P F m ops dr (⟨some t,.slice T x none (some l) none,ty,pos,after,none⟩::rest) ⟨tm,h⟩ fs Q:=by
 have:=cP (P:=P) (st:=⟨tm,h⟩) (lo:=none) (hi:=some l) (l:=0) (r:=i.toNat) hP hx hT hd he Z ⟨k,i,hl,by omega⟩ (by omega) (by omega) hsz;rw[show(xs.drop 0).take (i.toNat-0)=ys by rw[<-hy];rfl]at this;exact wG this hm hk
def zQq (hP:uI P TT) {T e:Nat} {x l l2:Operand} {ti te:TI} {nn:Bool} {xs ys:List AV} {k k2:IntKind} {i j:Int} (hx:yJ (zG tm) x= .sl nn xs) (hl:yJ (zG tm) l= .s (.int k i)) (hl2:yJ (zG tm) l2= .s (.int k2 j)) (hT:TT[T]? =some ti) (hd:ti.d= .slice e) (he:TT[e]? =some te)
  (hsz:∀y,xs[0]? =some y->y.cells.length=te.size) (h0:0<=i) (h1:i<=j) (h2:j<=xs.length) (hy:(xs.drop i.toNat).take (j.toNat-i.toNat)=ys) (hm:Nat.blt t m=true) (hk:zX P F m ops dr rest ⟨(t,.sl nn ys)::tm,h⟩ (⟨true,[],[]⟩::fs) Q):
  zX P F m ops dr (⟨some t,.slice T x (some l) (some l2) none,ty,pos,after,none⟩::rest) ⟨tm,h⟩ fs Q:=by
 have:=cP (P:=P) (st:=⟨tm,h⟩) (lo:=some l) (hi:=some l2) (l:=i.toNat) (r:=j.toNat) hP hx hT hd he ⟨k,i,hl,by omega⟩ ⟨k2,j,hl2,by omega⟩ (by omega) (by omega) hsz;rw[hy]at this;exact wG this hm hk
end
def iI (n:Int):AV:= .s (.int .i64 n)
def TX (TT:List TI):Nat->List (Nat×Nat)->Bool
 |_,[]=>true
 | o,(p,t)::r=>Nat.beq p o&&((match TT[t]? with
  |some ti=>(match ti.d with
   | .int .i64=>true
   |_=>false)
  |none=>false)&&TX TT (o+1) r)
def TA {P:Program} {TT:List TI} (hP:uI P TT) {t:Nat} {ti:TI} (ht:TT[t]? =some ti) (hk:ti.d= .int .i64) (w:World) {cs:Array Value} {off:Nat} {v:Value} (hv:cs[off]? =some v):(part t cs off).run P w= .ok v w:=by
 unfold part;simp[IZ (hP _ _ ht) w,hk,TD.agg,hv]
theorem cR {P:Program} {TT:List TI} (hP:uI P TT) (d:Nat) (w:World) (xs ys:Array Value):∀(fs:List Field) (o:Nat) (ms ns:List Int),TX TT o (fs.map λf=>(f.offset,f.type))=true->(fs.all λf=>f.name != "_")=true->ms.length=fs.length->ns.length=fs.length->
  (∀i,i<ms.length->xs[o+i]? =some (.int .i64 (ms.getD i 0)))->(∀i,i<ns.length->ys[o+i]? =some (.int .i64 (ns.getD i 0)))->(Op.eqFields (d+1) xs ys fs).run P w= .ok (ms==ns) w
 | [],o,ms,ns,_,_,h1,h2,_,_=>by
  obtain rfl:=yBa h1;obtain rfl:=yBa h2;rfl
 |f::fs,o,[],ns,_,_,h1,_,_,_=>by simp at h1
 |f::fs,o,m::ms,[],_,_,_,h2,_,_=>by simp at h2
 | f::fs,o,m::ms,n::ns,hf,hn,h1,h2,hx,hy=>by
  simp only[yBb,TX,yAk]at hf;simp only[yFx,yAk,yCg,yC7]at hn;obtain⟨e1,e2,e3⟩:=hf;have e1:=yA2 e1;split at e2
  ·rename_i ti hti;split at e2
   ·rename_i hd;obtain⟨_,u,_,_,hu,_,hdd,_⟩:=wN (hP _ _ hti);obtain rfl:=UX (hdd.symm.trans hd);have a1:=TA (off:=f.offset) hP hti hd w (cs:=xs) (v:= .int .i64 m) (by rw[e1];have:=hx 0 zU;simpa using this);have a2:=TA (off:=f.offset) hP hti hd w (cs:=ys) (v:= .int .i64 n) (by rw[e1];have:=hy 0 zU;simpa using this);have ih:=cR hP d w xs ys fs (o+1) ms ns e3 (by simpa using hn.2) LN OC (λi hi=>by have:=hx (i+1) OB;rw[show o+1+i=o+(i+1) by omega];simpa using this) (λi hi=>by have:=hy (i+1) OB;rw[show o+1+i=o+(i+1) by omega];simpa using this);have hne:f.name≠ "_" :=hn.1;simp only[Op.eqFields,hne,yC7,yEr,yE2,Sem.run_bind,a1,a2,Result.andThen_ok,run_equalIn_int w d f.type .i64 .i64 m n hu];by_cases hmn:m=n
    ·subst hmn;simp[ih]
    ·simp[hmn]
   ·cases e2
  ·cases e2
theorem zDq {P:Program} {TT:List TI} (hP:uI P TT) {tm:List (Nat×AV)} {h:List (Nat×xN)} {ty:Nat} {x y:Operand} {T:Nat} {ti:TI} {fl:List (Nat×Nat)} {ms ns:List Int} {op:BinOp} {v:Bool} (hx:yJ (zG tm) x= .agg (ms.map iI)) (hy:yJ (zG tm) y= .agg (ns.map iI)) (hT:TT[T]? =some ti) (hd:ti.d= .str fl) (hfl:TX TT 0 fl=true)
  (hlm:Nat.beq ms.length fl.length=true) (hln:Nat.beq ns.length fl.length=true) (hst:P.stoodInHeld T=false) (hg:P.eqGuardType P.depth T=false) (hnm:((P.fieldsOf T).toList.all λf=>f.name != "_")=true) (hop:op= .eql/\v=(ms==ns)∨op= .neq/\v= !(ms==ns)):
  wM P ⟨tm,h⟩ (.binOp op T x y ty) (.s (.bool v)) [] [] []:=
 yK λo X tm' hh w β a ho hgg _ HH Ht=>by
  obtain⟨dst',op',type,pos,after,guard⟩:=o;dsimp only at ho;subst ho;have h1:=hH Ht hgg (x:=x) vY hx;have h2:=hH Ht hgg (x:=y) vY hy;obtain⟨_,u,_,_,hu,_,hdd,_⟩:=wN (hP _ _ hT);obtain⟨f,rfl,hfe⟩:=HA (hdd.symm.trans hd);have hfo:P.fieldsOf T=f:=by unfold Program.fieldsOf;rw[hu]
  have hlm:=yA2 hlm;have hln:=yA2 hln;have hflen:fl.length=f.toList.length:=by rw[<-hfe];simp
  have cells:∀(l:List Int) (c:Value),zQ w (xK X β) hh β (.agg (l.map iI)) c->∃cs:Array Value,c= .agg cs/\∀i,i<l.length->cs[i]? =some (.int .i64 (l.getD i 0)):=λl c hc=>by
   have each:∀i,i<l.length->(l.map iI)[i]? =some (iI (l.getD i 0)):=λi hi=>by simp[List.getD,hi]
   cases hc with
   | fz _ _ hf=>
    cases hf with
    |agg _ cs hl _ hh2=>
     refine⟨cs,rfl,λi hi=>?_⟩;have:=hh2 i _ (each i hi);have hi2:i<cs.size:=by rw[hl];simpa using hi
     unfold iI at this;have e:cs.getD i undef=cs[i]:=by simp[yAy,hi2]
     rw[e]at this;rw[yDs hi2];generalize cs[i]=c at this;cases this;rfl
   |agg _ cs hl _ hh2=>
    refine⟨cs,rfl,λi hi=>?_⟩;have:=hh2 i _ (each i hi);have hi2:i<cs.size:=by rw[hl];simpa using hi
    have e:cs.getD i undef=cs[i]:=by simp[yAy,hi2]
    rw[e]at this;rw[yDs hi2];unfold iI at this;rw[this.s_inv]
  obtain⟨cx,ex,hcx⟩:=cells ms _ h1;obtain⟨cy,ey,hcy⟩:=cells ns _ h2;have hrun:=cR hP 9998 w cx cy f.toList 0 ms ns (by rw[hfe];exact hfl) (by rw[<-hfo];exact hnm) (by omega) (by omega) (λi hi=>by simpa using hcx i hi) (λi hi=>by simpa using hcy i hi)
  have heq:(Op.equalIn 10000 T (.agg cx) (.agg cy)).run P w= .ok (ms==ns) w:=by
   rw[show(10000:Nat)=9999+1 from Z,run_equalIn_agg w 9999 T cx cy (by rw[hfo];exact hu) hst,hfo];exact hrun
  refine⟨.bool v,?_,.fz _ _ (.s _)⟩
  rcases hop with⟨rfl,rfl⟩|⟨rfl,rfl⟩
  ·simp[execOp,ex,ey,run_eqGuard_agg w _ T x y cx cy hg,run_eql_struct w T cx cy,heq]
  ·simp[execOp,ex,ey,run_eqGuard_agg w _ T x y cx cy hg,run_neq_struct w T cx cy,heq]
theorem zQ.offK {w:World} {D D':Nat->Prop} {h h':yC} {β β':vP} (k:Nat) (hD:∀b,D' b->D b) (hh:∀j,j≠k->h' j=h j) (hβ:∀j,j≠k->β' j=β j) {v:AV} {c:Value} (hv:zQ w D h β v c):k∉v.refs->zQ w D' h' β' v c:=by
 induction hv with
 |fz v c hf=>exact λ_=> .fz v c (hf.less hD)
 |agg cs c hl h1 hr ih=>exact λhk=> .agg cs c hl h1 λi v hv=>ih i v hv λhm=>hk (wI hv hm)
 |fn f caps c hl hr ih=>exact λhk=> .fn f caps c hl λi v hv=>ih i v hv λhm=>hk (wI hv hm)
 |tup vs c hl hr ih=>exact λhk=> .tup vs c hl λi v hv=>ih i v hv λhm=>hk (wI hv hm)
 |dref j off len c hk' h1=>exact λhk=> .dref j off len c (by rw[hh j (λe=>hk (by simp[AV.refs,e]))];exact hk') h1
 |dptr j i off c hk' h1=>exact λhk=> .dptr j i off c (by rw[hh j (λe=>hk (by simp[AV.refs,e]))];exact hk') h1
 |ref j off len sz xs st b n cap hk' hb hn hc hs=>
  intro hk;have hj:j≠k:=λe=>hk (by simp[AV.refs,e])
  exact .ref j off len sz xs st b n cap OE zDp hn hc hs
 |ref0 j off sz xs st a hk' hn=>
  intro hk;have hj:j≠k:=λe=>hk (by simp[AV.refs,e])
  exact .ref0 j off sz xs st a OE hn
 |pbox j off cs b n hk' hb=>
  intro hk;have hj:j≠k:=λe=>hk (by simp[AV.refs,e])
  exact .pbox j off cs b n OE zDp
 |parr j i off sz xs st b n hk' hb hi ho=>
  intro hk;have hj:j≠k:=λe=>hk (by simp[AV.refs,e])
  exact .parr j i off sz xs st b n OE zDp hi ho
def AV.isGh:AV->Bool
 | .gh _=>true
 |_=>false
section
variable {P:Program} {K0:List Nat} {F:Fr K0} {m:Nat} {tm:List (Nat×AV)} {h:List (Nat×xN)}
def zQr (k:Nat):xN->Bool
 | .box cs=>!(kM cs).contains k
 | .obj cs=>true
 | .arr _ xs fl=>bif fl.nest then !(kM xs).contains k else true
 | .dead=>true
theorem xV.compact {a:Act} {w:World} (R:xV F m ⟨tm,h⟩ a w) (k:Nat) (ws:List Nat) {sz:Nat} {xs:List AV} {sb:Bool} (hk:zC h k=some (.arr sz xs ⟨sb,false⟩)) (hK0:K0.contains k=false) (hws:ws.map (zG tm)=ws.map λ_=> .ref k 0 xs.length)
  (htm:tm.all (λp=>ws.contains p.1|| !p.2.refs.contains k)=true) (hbx:h.all (λp=>zQr k p.2)=true):xV F m ⟨tm,(k,.arr sz xs false)::h⟩ a w:=by
 obtain⟨⟨X,β,hX,H,Ht,KK,hJ,hD⟩,nd,gs,hl⟩:=R;have hE:=H.ent k _ hk;obtain⟨e1,e2,e3,e4,e5,f,e6,e7,e8⟩:=hE
 let β':vP:=λj=>if j=k then(β k).take 1 else β j
 have hsub:∀j b n,(b,n)∈β' j->(b,n)∈β j:=λj b n hm=>by
  dsimp only[β']at hm;split at hm
  ·rename_i e;subst e;exact yCc hm
  ·exact hm
 have hDs:∀b,xK X β' b->xK X β b:=λb hd=>hd.imp id λ⟨j,n,hm⟩=>⟨j,n,hsub j b n hm⟩
 have hh':∀j,j≠k->zC ((k,.arr sz xs false)::h) j=zC h j:=λj hj=>by rw[yQ,zZ7 hj]
 have hhk:zC ((k,.arr sz xs false)::h) k=some (.arr sz xs false):=by rw[yQ,zZ8 Z]
 have hβ':∀j,j≠k->β' j=β j:=λj hj=>by dsimp only[β'];rw[zZ7 hj]
 have hβk:β' k=(β k).take 1:=by dsimp only[β'];rw[zZ8 Z]
 have whole:∀c,zQ w (xK X β) (zC h) β (.ref k 0 xs.length) c->zQ w (xK X β') (zC ((k,.arr sz xs false)::h)) β' (.ref k 0 xs.length) c:=λc hc=>by
  generalize hn:xs.length=n at hc
  cases hc with
  |fz _ _ hf=>cases hf
  |dref _ _ _ _ hd _=>exact absurd hd (nd k)
  | ref _ _ _ sz' xs' st' b n' cap hk2 hb hn' hc' hs'=>
   rw[hk]at hk2;cases hk2;refine .ref k 0 n sz xs false b n' cap hhk ?_ hn' hc' hs';rw[hβk]
   cases hbk:β k with
   |nil=>rw[hbk]at hb;simp at hb
   |cons p r=>
    rw[hbk]at hb;obtain⟨b0,n0⟩:=p;obtain⟨_,_,g3⟩:=e5 b0 n0 r hbk
    rcases yBd.1 hb with h1|h1
    ·rw[h1];simp
    ·exfalso;have:=g3 b n' h1;omega
  |ref0 _ _ sz' xs' st' ad hk2 hn'=>exact .ref0 k 0 sz xs false ad hhk (yAp _)
 have slot:∀t,zQ w (xK X β') (zC ((k,.arr sz xs false)::h)) β' (zG tm t) (a.eval (.tmp t)):=λt=>by
  by_cases hw:t∈ws
  ·obtain⟨i,hi⟩:=yDw hw;have e:=yA6 (·[i]?) hws;simp only[yAa,hi,Option.map_some,yBj]at e;have:=Ht t;dsimp only at this;rw[e]at this⊢;exact whole _ this
  ·refine(Ht t).offK k hDs hh' hβ' ?_;dsimp only;intro hm
   have key:∀(l:List (Nat×AV)),l.all (λp=>ws.contains p.1|| !p.2.refs.contains k)=true->k∈(zG l t).refs->False:=λl=>by
    induction l with
    |nil=>intro _ hm;simp[zG,AV.refs]at hm
    | cons p r ih=>
     obtain⟨j,v⟩:=p;intro hl hm;rw[yF]at hm;simp only[yFx,yAk]at hl;split at hm
     ·rename_i e;subst e;have h1:=hl.1;simp only[yCi,yCw,yCe,yCx]at h1
      rcases h1 with h1|h1
      ·exact hw h1
      ·exact h1 (by simpa using hm)
     ·exact ih hl.2 hm
   exact key tm htm hm
 have H':qV X (zC ((k,.arr sz xs false)::h)) β' w:=by
  refine⟨λj e he=>?_,λj hj=>?_,λj j' b n n' h1 h2=>H.disj j j' b n n' (hsub _ _ _ h1) (hsub _ _ _ h2),λj b n hm=>H.free j b n (hsub _ _ _ hm),λb hd=>H.lt b (hDs b hd)⟩
  ·by_cases hj:j=k
   ·subst hj;rw[hhk]at he;cases he;refine⟨e1,e2,λhx=>?_,e4,λb n r hr=>?_,f,.ofF λi x l v hx hv=>(e6.toF Z i x l v hx hv).less hDs,e7,λb n hm=>e8 b n (hsub _ _ _ hm)⟩
    ·rw[hβk];have:=e3 hx
     cases hbk:β j with
     |nil=>exact absurd hbk this
     |cons p r=>simp
    ·rw[hβk]at hr
     cases hbk:β j with
     |nil=>rw[hbk]at hr;simp at hr
     |cons p r'=>
      rw[hbk]at hr;simp only[yE3,yC8,yF6]at hr;obtain⟨hp,hr⟩:=hr;subst hr;rw[hp]at hbk;obtain⟨g1,_,_⟩:=e5 b n r' hbk;exact⟨g1,λ_ b' n' hm=>by simp at hm,λb' n' hm=>by simp at hm⟩
   ·rw[hh' j hj]at he;have hE:=H.ent j e he
    cases e with
    |dead=>exact absurd he (nd j)
    |box cs=>
     obtain⟨b,c,el,g1,g2,g3,g4,g5⟩:=hE;refine⟨b,c,el,by rw[hβ' j hj];exact g1,g2,g3,g4,λi v hv=>(g5 i v hv).offK k hDs hh' hβ' λhm=>?_⟩;obtain⟨p,hp,hpe⟩:=fY he;have:=yAm.1 hbx p hp;rw[hpe]at this;have hmm:=wI hv hm;simp only[zQr,yCe,yCx]at this;exact this (by simpa using hmm)
    |obj cs=>
     exact⟨by rw[hβ' j hj];exact hE.1,hE.2⟩
    | arr sz' xs' st'=>
     obtain⟨g1,g2,g3,g4,g5,f',g6,g7,g8⟩:=hE;refine⟨g1,g2,by rw[hβ' j hj];exact g3,g4,by rw[hβ' j hj];exact g5,f',λi x l v hx hv=>?_,g7,by rw[hβ' j hj];exact g8⟩
     cases hn:st'.nest with
     |false=>exact⟨.fz _ _ ((g6.toF hn i x l v hx hv).less hDs),λ_=>(g6.toF hn i x l v hx hv).less hDs⟩
     |true=>
      refine⟨(g6.toV i x l v hx hv).offK k hDs hh' hβ' λhm=>?_,λh0=>by cases h0⟩;obtain⟨p,hp,hpe⟩:=fY he;have:=yAm.1 hbx p hp;rw[hpe]at this;simp only[zQr,hn,yBn]at this;have hmm:=wI hx (XD hv hm);simp only[yCe,yCx]at this;exact this (by simpa using hmm)
  ·rw[yQ]at hj;split at hj
   ·cases hj
   ·rename_i hne;rw[hβ' j hne];exact H.off j hj
 have hkF:∀b n,(b,n)∉F.β0 k:=λb n hm=>by
  have:=F.hK k b n hm;simp only[yCx]at hK0;exact hK0 LO
 refine⟨⟨X,β',hX,H',slot,⟨λj e he=>?_,KK.size,KK.keep,λj b n hm=>KK.own j b n (hsub _ _ _ hm),λj b n hm=>?_,KK.bs,KK.os,KK.tape,KK.output⟩,λi hi=>?_,hD⟩,λj=>?_,gs,hl⟩
 ·have hj:j≠k:=λe'=>by
   subst e';have:=F.hh j e he;simp only[yCx]at hK0;exact hK0 LO
  have:=KK.knd j e he
  cases e with
  |dead=>exact this
  |box cs=>obtain⟨cs',h2⟩:=this;exact⟨cs',by dsimp only;rw[hh' j hj];exact h2⟩
  |obj cs=>obtain⟨cs',h2⟩:=this;exact⟨cs',by dsimp only;rw[hh' j hj];exact h2⟩
  |arr sz' xs' sl'=>obtain⟨xs2,sl2,h2,h3⟩:=this;exact⟨xs2,sl2,by dsimp only;rw[hh' j hj];exact h2,h3⟩
 ·have hj:j≠k:=λe'=>by subst e';exact hkF b n hm
  rw[hβ' j hj];exact KK.pas j b n hm
 ·exact F.Jst i _ X w w _ (hJ i hi) (yAb _) (λ_ _ _=>rfl) (λb ⟨j,n,hm⟩=> .inl ⟨j,n,hsub _ _ _ hm⟩) (λb ⟨j,n,hm⟩=>H.lt b (.inr ⟨j,n,hsub _ _ _ hm⟩)) Z Z Z
 ·dsimp only;by_cases hj:j=k
  ·subst hj;rw[hhk];intro hd;cases hd
  ·rw[hh' j hj];exact nd j
theorem xV.flag {a:Act} {w:World} (R:xV F m ⟨tm,h⟩ a w) (k:Nat) {sz:Nat} {xs:List AV} {st:Fl} (fl:Fl) (q1:fl.stale=false->st.stale=false) (q2:fl.nest=false->st.nest=false) (hk:zC h k=some (.arr sz xs st)):xV F m ⟨tm,(k,.arr sz xs fl)::h⟩ a w:=by
 obtain⟨⟨X,β,hX,H,Ht,KK,hJ,hD⟩,nd,gs,hl⟩:=R;have hh':∀j,j≠k->zC ((k,.arr sz xs fl)::h) j=zC h j:=λj hj=>by rw[yQ,zZ7 hj]
 have hhk:zC ((k,.arr sz xs fl)::h) k=some (.arr sz xs fl):=by rw[yQ,zZ8 Z]
 have E:GO w (xK X β) (zC h) β w (xK X β) (zC ((k,.arr sz xs fl)::h)) β:=⟨yAb _,λb _ hd=>⟨rfl,hd⟩,λ_ _ _ _=>rfl,λj e he=>by
  by_cases hj:j=k
  ·subst hj;rw[hk]at he;cases he;exact .inr ⟨⟨xs,fl,hhk,yAb _⟩,λb n hm=>⟨n,yAb _,hm⟩⟩
  ·have:=qO (zC h) β j e he
   rcases this with h1|h1
   ·exact .inl (by rw[hh' j hj];exact h1)
   ·refine .inr ?_
    cases e with
    |dead=>exact h1
    |box cs=>obtain⟨⟨cs',h2⟩,h3⟩:=h1;exact⟨⟨cs',by rw[hh' j hj];exact h2⟩,h3⟩
    |obj cs=>obtain⟨⟨cs',h2⟩,h3⟩:=h1;exact⟨⟨cs',by rw[hh' j hj];exact h2⟩,h3⟩
    |arr sz' xs' st'=>obtain⟨⟨x2,s2,h2,h3⟩,h4⟩:=h1;exact⟨⟨x2,s2,by rw[hh' j hj];exact h2,h3⟩,h4⟩⟩
 have H':qV X (zC ((k,.arr sz xs fl)::h)) β w:=by
  refine⟨λj e he=>?_,λj hj=>?_,H.disj,H.free,H.lt⟩
  ·by_cases hj:j=k
   ·subst hj;rw[hhk]at he;cases he;obtain⟨e1,e2,e3,e4,e5,f,e6,e7⟩:=H.ent j _ hk;exact⟨e1,e2,e3,e4,λb n r hr=>⟨(e5 b n r hr).1,λh=>(e5 b n r hr).2.1 (q1 h),(e5 b n r hr).2.2⟩,f,λi x l v hx hv=>⟨(e6.toV i x l v hx hv).evo E,λh=>(e6.toF (q2 h) i x l v hx hv).evo E.size E.fz⟩,e7⟩
   ·rw[hh' j hj]at he;exact(H.ent j e he).evo E Z λ_ _ _=>rfl
  ·rw[yQ]at hj;split at hj
   ·cases hj
   ·exact H.off j hj
 refine⟨⟨X,β,hX,H',λt=>(Ht t).evo E,⟨λj e he=>?_,KK.size,KK.keep,KK.own,KK.pas,KK.bs,KK.os,KK.tape,KK.output⟩,hJ,hD⟩,λj=>?_,gs,hl⟩
 ·have:=KK.knd j e he;by_cases hj:j=k
  ·subst hj
   cases e with
   |dead=>exact this
   |box cs=>obtain⟨cs',h2⟩:=this;(try dsimp only at h2);rw[hk]at h2;cases h2
   |obj cs=>obtain⟨cs',h2⟩:=this;(try dsimp only at h2);rw[hk]at h2;cases h2
   |arr sz' xs' sl'=>obtain⟨xs2,sl2,h2,h3⟩:=this;(try dsimp only at h2);rw[hk]at h2;cases h2;exact⟨xs,fl,hhk,h3⟩
  ·cases e with
   |dead=>exact this
   |box cs=>obtain⟨cs',h2⟩:=this;exact⟨cs',by dsimp only;rw[hh' j hj];exact h2⟩
   |obj cs=>obtain⟨cs',h2⟩:=this;exact⟨cs',by dsimp only;rw[hh' j hj];exact h2⟩
   |arr sz' xs' sl'=>obtain⟨xs2,sl2,h2,h3⟩:=this;exact⟨xs2,sl2,by dsimp only;rw[hh' j hj];exact h2,h3⟩
 ·dsimp only;by_cases hj:j=k
  ·subst hj;rw[hhk];intro hd;cases hd
  ·rw[hh' j hj];exact nd j
def qB {c:Code} {Q:Exit->St->Prop} (k:Nat) {sz:Nat} {xs:List AV} {sb:Bool} (hk:zC h k=some (.arr sz xs ⟨sb,false⟩)) (hs:vK P F m c ⟨tm,(k,.arr sz xs true)::h⟩ Q):vK P F m c ⟨tm,h⟩ Q:=
 ⟨λa w R=>hs.run a w (R.flag k true (λh=>by cases h) (λ_=>rfl) hk)⟩
def OG {c:Code} {Q:Exit->St->Prop} (k:Nat) {sz:Nat} {xs:List AV} {sb:Bool} (hk:zC h k=some (.arr sz xs ⟨sb,false⟩)) (hs:vK P F m c ⟨tm,(k,.arr sz xs ⟨sb,true⟩)::h⟩ Q):vK P F m c ⟨tm,h⟩ Q:=
 ⟨λa w R=>hs.run a w (R.flag (st:=⟨sb,false⟩) k ⟨sb,true⟩ (λh=>h) (λh=>Bool.noConfusion h) hk)⟩
theorem xV.wkT {a:Act} {w:World} (R:xV F m ⟨tm,h⟩ a w) (t:Nat) {v v':AV} (hv:zG tm t=v) (he:XC v=v') (hg:∀i,v'≠ .gh i):xV F m ⟨(t,v')::tm,h⟩ a w:=by
 obtain⟨⟨X,β,hX,H,Ht,KK,hJ,hD⟩,nd,gs,hl⟩:=R;refine⟨⟨X,β,hX,H,λj=>?_,KK,λi hi=>?_,hD⟩,nd,gs,hl⟩
 ·rw[yF];split
  ·rename_i hj;subst hj;have:=(Ht j).wk;dsimp only at this;rw[hv,he]at this;exact this
  ·exact Ht j
 ·rw[yF]at hi;split at hi
  ·exact absurd hi (hg i)
  ·exact hJ i hi
def CP {ops:Array Oper} {l:List Oper} {fs:List FP} {Q:List FP->St->Prop} (t:Nat) {v v':AV} (hv:zG tm t=v) (he:XC v=v') (hg:v'.isGh=false) (hk:zX P F m ops false l ⟨(t,v')::tm,h⟩ fs Q):zX P F m ops false l ⟨tm,h⟩ fs Q:=
 ⟨λa w R=>hk.run a w (R.wkT t hv he λi hi=>by rw[hi]at hg;cases hg)⟩
def CQ {c:Code} {Q:Exit->St->Prop} (k:Nat) (ws:List Nat) {sz:Nat} {xs:List AV} {sb:Bool} (hk:zC h k=some (.arr sz xs ⟨sb,false⟩)) (hK0:K0.contains k=false) (hws:ws.map (zG tm)=ws.map λ_=> .ref k 0 xs.length)
  (htm:tm.all (λp=>ws.contains p.1|| !p.2.refs.contains k)=true) (hbx:h.all (λp=>zQr k p.2)=true) (hs:vK P F m c ⟨tm,(k,.arr sz xs false)::h⟩ Q):vK P F m c ⟨tm,h⟩ Q:=
 ⟨λa w R=>hs.run a w (R.compact k ws hk hK0 hws htm hbx)⟩
end
def p2 (n:Int):Int:=2 ^ n.toNat
def uM (m n:Int):Int:=m.fdiv (2 ^ n.toNat)
def zSx (n:Int) (h:n<=40):1<=p2 n/\p2 n<=1099511627776:=by
 unfold p2;have h1:(2:Int) ^ n.toNat=((2 ^ n.toNat:Nat):Int):=by simp
 have h2:2 ^ n.toNat<=2 ^ 40:=yEb (by omega) (by omega);have h3:0<2 ^ n.toNat:=Nat.two_pow_pos _;rw[h1];omega
section
variable {P:Program} {tm:List (Nat×AV)} {h:List (Nat×xN)} {tx ty:Nat} {x y:Operand}
def zMd {k':IntKind} {n:Int} (hx:yJ (zG tm) x= .s (.int .i64 1)) (hy:yJ (zG tm) y= .s (.int k' n)) (h0:0<=n/\n<=40):wM P ⟨tm,h⟩ (.binOp .shl tx x y ty) (.s (.int .i64 (p2 n))) [] [] []:=by
 have e:IntKind.i64.wrap (1*2 ^ (min n.toNat IntKind.i64.bits))=p2 n:=by
  have hb:IntKind.i64.bits=64:=rfl;have h1:=zSx n h0.2;rw[hb,show min n.toNat 64=n.toNat by omega,yGb];exact qP (k:= .i64) ⟨by unfold p2 at h1;show -9223372036854775808<=_;omega,by unfold p2 at h1;show _<=9223372036854775807;omega⟩
 rw[<-e];exact ZC (.inl ⟨rfl,rfl⟩) hx hy h0.1
def zMe {k':IntKind} {m n:Int} (hx:yJ (zG tm) x= .s (.int .i64 m)) (hy:yJ (zG tm) y= .s (.int k' n)) (h0:0<=n/\n<=40):wM P ⟨tm,h⟩ (.binOp .shr tx x y ty) (.s (.int .i64 (uM m n))) [] [] []:=by
 have hb:IntKind.i64.bits=64:=rfl;refine ZC (.inr ⟨rfl,?_⟩) hx hy h0.1;rw[hb,show min n.toNat 64=n.toNat by omega];rfl
end
section
variable {P:Program} {K0:List Nat} {F:Fr K0} {m:Nat}
def zMf {x y:Code} {Q:Exit->St->Prop} {st:St} (K ts:List Nat) (st1:St) (hK:K0.all (K.contains ·)=true) (h1:vK P F m x st (λe s=>e= .normal/\restr K ts s=st1)) (h2:vK P F m y st1 Q):vK P F m x st (ZW P F m y Q):=
 ⟨λa w H=>Code.wpIn_mono (λe a' w' ⟨s,⟨he,hs⟩,hr⟩=>by subst he;exact⟨st1,h2,hs▸xV.restr hr K ts hK⟩) (h1.run a w H)⟩
end
section
variable {P:Program} {tm:List (Nat×AV)} {h:List (Nat×xN)} {tx ty:Nat} {x y:Operand}
def zA4 {a b:List Int} {v:Bool} (hx:yJ (zG tm) x= .s (.string (strOfNums a))) (hy:yJ (zG tm) y= .s (.string (strOfNums b))) (hv:eqY a b=v):wM P ⟨tm,h⟩ (.binOp .eql tx x y ty) (.s (.bool v)) [] [] []:=hv▸LS hx hy
def zA5 {a b:List Int} {v:Bool} (hx:yJ (zG tm) x= .s (.string (strOfNums a))) (hy:yJ (zG tm) y= .s (.string (strOfNums b))) (hv:eqY a b=v):wM P ⟨tm,h⟩ (.binOp .neq tx x y ty) (.s (.bool (!v))) [] [] []:=hv▸LT hx hy
end
section
variable {P:Program} {K0:List Nat} {F:Fr K0} {m:Nat} {TT:List TI} {ops:Array Oper} {dr:Bool} {rest:List Oper} {tm:List (Nat×AV)} {h:List (Nat×xN)} {fs:List FP} {Q:List FP->St->Prop} {t ty:Nat} {pos:String} {after:Array Edge}
def fZ (kn:Nat) (hP:uI P TT) {T e n:Nat} {x y:Operand} {ti te:TI} {kx ky:IntKind} {nx ny:Int} {z:AV} (hx:yJ (zG tm) x= .s (.int kx nx)) (hy:yJ (zG tm) y= .s (.int ky ny)) (hT:TT[T]? =some ti) (hd:ti.d= .slice e) (he:TT[e]? =some te)
  (hb:Nat.ble te.bytes 65536=true) (hp:Nat.ble 1 te.size=true) (hzl:Nat.beq te.zero.length te.size=true) (hz1:te.zero.all (·.oneCell')=true) (hzc:Nat.beq (vU te).cells.length te.size=true) (hzc2:(vU te).cells=te.zero.map .s) (hz:vU te=z)
  (hnx:nx=(n:Int)) (hny:nx<=ny) (hmax:ny<=1073741824) (hm:Nat.blt t m=true) (hnn:(zC h kn).isNone=true)
  {sz:Nat} (hse:te.size=sz) (hk:zX P F m ops dr rest ⟨(t,.ref kn 0 n)::tm,(kn,.arr sz (List.replicate n z) false)::h⟩ (⟨true,[kn,kn],[]⟩::fs) Q):zX P F m ops dr (⟨some t,.makeSlice T x y,ty,pos,after,none⟩::rest) ⟨tm,h⟩ fs Q:=by
 subst hse hz;exact uS (nw:=[kn]) (ZV hP kn hx hy hT hd he hnx hny hmax hb hp hzl hz1 hzc hzc2) hm (zAu hnn) Z hk
end
end Av
end Go.Proofs.YteajjdidebfcjaaGreat
