/- Part 15: contracts of the functions, and what they rest upon. -/
import Derived.Test.YtaikgchmpieooaaGreatP14
namespace Go.Proofs.YtaikgchmpieooaaGreat
namespace Av
set_option linter.unusedSimpArgs false
set_option linter.unusedVariables false
section
theorem Keep.evo {K0:List Nat} {F:Fr K0} {h:Heap} {β:Map} {w:World} {X:Nat→Prop} (hX:XOK F X) (G:Goes X F.w0 F.h0 F.β0 w h β):Evo F.w0 (Dom F.X F.β0) F.h0 F.β0 w (Dom X β) h β:=
 ⟨G.size,fun b hb hd=>⟨G.keep b hb fun k n hm=>hd (.inr ⟨k,n,hm⟩),fun h'=>by
  rcases h' with hx|⟨k,n,hm⟩
  ·rcases hX.2 b hx with hx|hx
   ·exact hd (.inl hx)
   ·omega
  ·rcases G.own k b n hm with⟨k',n',h2⟩|h2
   ·exact hd (.inr ⟨k',n',h2⟩)
   ·omega⟩,G.bs,G.key⟩
structure Core {K0:List Nat} (F:Fr K0) (T:List (Nat×AV)) (a:Act) (l:Nat) (hc:List (Nat×Ent)) (rec:Loop) (O X:Nat→Prop) (W:World):Prop where
 ex:∃Xc βc,XOK F Xc∧HOK Xc (lookE hc) βc W∧(∀t,RepV W (Dom Xc βc) (lookE hc) βc (look T t) (a.eval (.tmp t)))∧Keep F (lookE hc) βc W∧
  (∃bs:List Nat,a.defers=bs.map (fun b=>{target:= .collected b,args:= #[]})∧bs.Nodup∧∀b,b∈bs→Xc b∧F.w0.heap.size≤b∧W.heap[b]? =some (.deferred (some []))∧¬O b)∧
  (∀b,O b→Xc b∧F.w0.heap.size≤b∧¬F.X b)∧(∀b,Own βc b→X b)∧(∀b,Xc b→X b∨O b)∧Xc l
 lx:X l
 lo:¬O l
 lh:W.heap[l]? =some (.loop rec)
 ll:F.w0.heap.size≤l
 xl:∀b,X b→b<W.heap.size
 nd:∀k,lookE hc k≠some .dead
section
variable {K0:List Nat} {F:Fr K0} {T:List (Nat×AV)} {a:Act} {l:Nat} {hc:List (Nat×Ent)} {rec:Loop} {O O' X:Nat→Prop} {W W':World}
theorem Core.stab (C:Core F T a l hc rec O X W) (hs:W.heap.size≤W'.heap.size) (hk:∀b,b<W.heap.size→¬O b→W'.heap[b]? =W.heap[b]?) (ho:∀b,O' b→O b∨W.heap.size≤b) (hl:∀b,O' b→b<W'.heap.size) (o1:W'.os=W.os) (o2:W'.tape=W.tape) (o3:W'.output=W.output):Core F T a l hc rec O' X W':=by
 obtain⟨⟨Xc,βc,c1,c2,c3,c4,⟨bs,d1,d2,d3⟩,c6,c8,c10,c11⟩,lx,lo,lh,ll,xl,nd⟩:=C
 have hlW:l<W.heap.size:=xl l lx
 have own:∀k b n,(b,n)∈βc k→¬O b:=fun k b n hm hO=>c2.free k b n hm (c6 b hO).1
 have E:Evo W (Dom Xc βc) (lookE hc) βc W' (Dom (fun b=>(Xc b∧¬O b)∨O' b) βc) (lookE hc) βc:=by
  refine⟨hs,fun b hb hd=>⟨hk b hb fun hO=>hd (.inl (c6 b hO).1),fun h'=>?_⟩,fun k b n hm=>?_,keyRefl _ _⟩
  ·rcases h' with(hx|hx)|hx
   ·exact hd (.inl hx.1)
   ·rcases ho b hx with hO|hO
    ·exact hd (.inl (c6 b hO).1)
    ·omega
   ·exact hd (.inr hx)
  ·unfold bsize World.shape?
   rw[hk b (c2.lt b (.inr ⟨k,n,hm⟩)) (own k b n hm)]
 refine⟨⟨fun b=>(Xc b∧¬O b)∨O' b,βc,⟨fun b hb=> .inl ⟨c1.1 b hb,fun hO=>(c6 b hO).2.2 hb⟩,fun b hb=>?_⟩,⟨fun k e he=>(c2.ent k e he).evo E rfl fun b n hm=>hk b (c2.lt b (.inr ⟨k,n,hm⟩)) (own k b n hm),c2.off,c2.disj,fun k b n hm hx=>?_,fun b hd=>?_⟩,fun t=>(c3 t).evo E,⟨c4.knd,Nat.le_trans c4.size hs,fun b hb hi hn=>?_,c4.own,c4.pas,fun k b n hm=>?_,o1.trans c4.os,o2.trans c4.tape,o3.trans c4.output⟩,
  ⟨bs,d1,d2,fun b hb=>?_⟩,fun b hb=>?_,c8,fun b hb=>?_,.inl ⟨c11,lo⟩⟩,lx,fun h=>?_,by rw[hk l hlW lo];exact lh,ll,fun b hb=>Nat.lt_of_lt_of_le (xl b hb) hs,nd⟩
 ·rcases hb with hb|hb
  ·exact c1.2 b hb.1
  ·rcases ho b hb with hO|hO
   ·exact c1.2 b (c6 b hO).1
   ·exact .inr (Nat.le_trans c4.size hO)
 ·rcases hx with hx|hx
  ·exact c2.free k b n hm hx.1
  ·rcases ho b hx with hO|hO
   ·exact own k b n hm hO
   ·have:=c2.lt b (.inr ⟨k,n,hm⟩);omega
 ·rcases hd with(hx|hx)|hx
  ·exact Nat.lt_of_lt_of_le (c2.lt b (.inl hx.1)) hs
  ·exact hl b hx
  ·exact Nat.lt_of_lt_of_le (c2.lt b (.inr hx)) hs
 ·rw[hk b (Nat.lt_of_lt_of_le hb c4.size) fun hO=>by have:=(c6 b hO).2.1;omega]
  exact c4.keep b hb hi hn
 ·obtain⟨n',_,hm'⟩:=c4.pas k b n hm
  rw[E.bs k b n' hm',c4.bs k b n hm]
 ·obtain⟨q1,q2,q3,q4⟩:=d3 b hb
  refine⟨.inl ⟨q1,q4⟩,q2,by rw[hk b (c2.lt b (.inl q1)) q4];exact q3,fun h=>?_⟩
  rcases ho b h with hO|hO
  ·exact q4 hO
  ·have:=c2.lt b (.inl q1);omega
 ·refine⟨.inr hb,?_⟩
  rcases ho b hb with hO|hO
  ·exact(c6 b hO).2
  ·exact⟨Nat.le_trans c4.size hO,fun hx=>by have:=c2.lt b (.inl (c1.1 b hx));omega⟩
 ·rcases hb with hb|hb
  ·exact(c10 b hb.1).imp id fun hO=>absurd hO hb.2
  ·exact .inr hb
 ·rcases ho l h with hO|hO
  ·exact lo hO
  ·omega
def jumpOf (e:Exit) (c:Code):Prop:=(e= .ret∧c= .ret)∨∃id,e= .exit id∧c= .exit id
theorem Core.round {P:Program} {m:Nat} {ps:Array Tmp} {assign body:Code} {fn:FuncId} {bd:Nat} {Ks:List Nat} {ys:List AV} {cs:Array Value} {Rq:Exit→List (Nat×Ent)→Prop} (hps:∀p,p∈ps.toList→p<m) (hm:a.tmps.size=m) (gs:m≤GS)
  (hrec:rec= {state:= .ready,pending:=none,fn:=fn,tmps:=a.tmps,params:=ps,assign:=assign,body:=body,defers:=bd}) (C:Core F T a l hc rec O X W) (hT:∀t h',frzV Ks h' (look T t)=look T t) (hKs:∀k,k∈K0→k∈Ks)
  (hys:cs.size=ys.length) (hpl:ps.size=ys.length) (hrep:∀(j:Nat) v,ys[j]? =some v→RepF W (fun b=>X b∨O b) v (cs.getD j undef)) (hRq:∀e h,Rq e h→e= .normal∨e= .ret∨∃id,e= .exit id)
  (sim:∀(F1:Fr (keys hc)),F1.it=true→F1.ro=some l→Sim P F1 m assign ⟨setTm ps.toList ys T,hc⟩ (fun e s=>e= .normal∧∀(F2:Fr (keys s.h)),F2.it=true→F2.ro=some l→Sim P F2 m body s (fun e s'=>Rq e (restrH Ks (lookE s'.h))))):
  YieldAt Fence.wide 0 P l cs W fun e W'=>(e= .returned (.bool true)∧∃X',Quiet X X' W W'∧∃h',Rq .normal h'∧Core F T a l h' rec O X' W')∨
   (e= .returned (.bool false)∧∃X',Quiet X X' W W'∧∃h' x c,jumpOf x c∧Rq x h'∧Core F T a l h' {rec with state:= .done,pending:=some c} O X' W'):=by
 obtain⟨⟨Xc,βc,c1,c2,c3,c4,⟨bs,d1,d2,d3⟩,c6,c8,c10,c11⟩,lx,lo,lh,ll,xl,nd⟩:=C
 have hlW:l<W.heap.size:=xl l lx
 subst hrec
 refine⟨_,_,_,_,run_yield lh (by simpa using hys.trans hpl.symm),?_⟩
 dsimp only
 refine roundIn_of_wpIn (F:=Fence.wide) (n:=0) trivial ?_
 let F1:Fr (keys hc):=⟨Xc,W,βc,lookE hc,fun k b n hm=>by
  cases hk:lookE hc k with
  |none=>rw[c2.off k hk]at hm;simp at hm
  |some e=>exact lookE_mem hk,fun k e he=>lookE_mem he,some l,true,fun _=>False,fun _ _ _ _=>True,fun _ _ _ _ _ _ _ _ _ _ _ _ _ _=>trivial⟩
 have refl1:∀{K1:List Nat} (F:Fr K1),F.it=true→HOK F.X F.h0 F.β0 F.w0→(∀k,F.h0 k≠some .dead)→Keep F F.h0 F.β0 F.w0:=fun F _ H nd=>
  ⟨fun k e he=>by
   cases e with
   |dead=>exact absurd he (nd k)
   |box cs=>exact⟨cs,he⟩
   |arr sz xs sl=>exact⟨xs,sl,he,Nat.le_refl _⟩,Nat.le_refl _,fun _ _ _ _=>rfl,fun k b n hm=> .inl ⟨k,n,hm⟩,fun k b n hm=>⟨n,Nat.le_refl _,hm⟩,fun _ _ _ _=>rfl,rfl,rfl,rfl⟩
 have fold_size:∀(z:List (Nat×Value)) (tm:Array Value),(z.foldl (fun tmps (p:Nat×Value)=>tmps.setIfInBounds p.1 p.2) tm).size=tm.size:=by
  intro z
  induction z with
  |nil=>exact fun _=>rfl
  |cons p z ih=>intro tm;rw[List.foldl_cons,ih];simp
 have hfold:(ps.zip cs).foldl (fun tmps (p:Nat×Value)=>tmps.setIfInBounds p.1 p.2) a.tmps=(ps.toList.zip cs.toList).foldl (fun tmps (p:Nat×Value)=>tmps.setIfInBounds p.1 p.2) a.tmps:=by
  rw[←Array.foldl_toList,Array.toList_zip]
 have R1:RelS F1 m ⟨setTm ps.toList ys T,hc⟩ {tmps:=(ps.zip cs).foldl (fun tmps (p:Nat×Value)=>tmps.setIfInBounds p.1 p.2) a.tmps,defers:=[]} W:=by
  refine⟨⟨Xc,βc,⟨fun _ h=>h,fun _ h=> .inl h⟩,c2,fun t=>?_,refl1 F1 rfl c2 nd,fun _ _=>trivial,[],rfl,fun _=>rfl,List.nodup_nil,fun b hb=>by simp at hb⟩,nd,gs,by rw[hfold,fold_size];exact hm⟩
  rw[hfold]
  refine setTm_rep ps.toList ys cs.toList T a.tmps (by simpa using hys.symm) (fun j v c h1 h2=>?_) (fun p hp=>by rw[hm];exact hps p hp) c3 t
  have h3:=hrep j v h1
  have e:cs.getD j undef=c:=getD_of (by simpa using h2)
  rw[e]at h3
  exact .fz _ _ (h3.less fun b hd=>hd.elim (c10 b) fun ho=> .inl (c8 b ho))
 refine Code.wpIn_mono (fun e a1 w1 q=>?_) ((sim F1 rfl rfl).run _ _ R1)
 obtain⟨s,⟨rfl,hs⟩,⟨⟨X1,β1,hX1,H1,Ht1,K1,_,bs1,hd1,hb1,_⟩,nd1,gs1,hl1⟩⟩:=q
 have:=hb1 rfl
 subst this
 have G1:=K1.toGoes (fun _ h=>h) c2 H1 nd
 have E1:=Keep.evo hX1 G1
 have hl1':w1.heap[l]? =W.heap[l]? :=K1.keep l hlW (fun h=>h) fun k n hm=>c2.free k l n hm c11
 have hX1l:X1 l:=hX1.1 l c11
 refine⟨_,run_beginRound (hl1'.trans lh) rfl,?_⟩
 generalize hw2:w1.putObj l _=w2
 have sz2:w2.heap.size=w1.heap.size:=by rw[←hw2];simp
 have kp2:∀b,b≠l→w2.heap[b]? =w1.heap[b]? :=fun b hb=>by rw[←hw2];exact World.putObj_heap_other hb
 have lb2:w2.heap[l]? =some (.loop {state:= .busy,pending:=none,fn:=fn,tmps:=a.tmps,params:=ps,assign:=assign,body:=body,defers:=bd}):=by
  rw[←hw2];exact World.putObj_heap_same (Nat.lt_of_lt_of_le hlW K1.size)
 have oth2:w2.os=w1.os∧w2.tape=w1.tape∧w2.output=w1.output:=by rw[←hw2];exact⟨rfl,rfl,rfl⟩
 have kp2':∀b,b<w1.heap.size→¬X1 b→w2.heap[b]? =w1.heap[b]? :=fun b _ hx=>kp2 b fun e=>hx (e▸hX1l)
 have H1':=H1.turn (Nat.le_of_eq sz2.symm) kp2'
 have E2:=turnEvo H1 (Nat.le_of_eq sz2.symm) kp2'
 let F2:Fr (keys s.h):=⟨X1,w2,β1,lookE s.h,fun k b n hm=>by
  cases hk:lookE s.h k with
  |none=>rw[H1.off k hk]at hm;simp at hm
  |some e=>exact lookE_mem hk,fun k e he=>lookE_mem he,some l,true,fun _=>False,fun _ _ _ _=>True,fun _ _ _ _ _ _ _ _ _ _ _ _ _ _=>trivial⟩
 have R2:RelS F2 m s a1 w2:=⟨⟨X1,β1,⟨fun _ h=>h,fun _ h=> .inl h⟩,H1',fun t=>(Ht1 t).evo E2,refl1 F2 rfl H1' nd1,fun _ _=>trivial,[],hd1,fun _=>rfl,List.nodup_nil,fun b hb=>by simp at hb⟩,nd1,gs1,hl1⟩
 refine Code.wpIn_mono (fun e a2 w3 q=>?_) ((hs F2 rfl rfl).run _ _ R2)
 obtain⟨s3,hq,⟨⟨X3,β3,hX3,H3,_,K3,_⟩,nd3,_,_⟩⟩:=q
 have G3:=K3.toGoes (fun _ h=>h) H1' H3 nd1
 have E3:=Keep.evo hX3 G3
 have lb3:=(K3.keep l (by show l<w2.heap.size;rw[sz2];exact Nat.lt_of_lt_of_le hlW K1.size) (fun h=>h) fun k n hm=>H1.free k l n hm hX1l).trans lb2
 have hl3:l<w3.heap.size:=Nat.lt_of_lt_of_le (by rw[sz2];exact Nat.lt_of_lt_of_le hlW K1.size) K3.size
 have hX3l:X3 l:=hX3.1 l hX1l
 have s13:W.heap.size≤w3.heap.size:=Nat.le_trans K1.size (by rw[←sz2];exact K3.size)
 have key:∀rec':Loop,∃X',Quiet X X' W (w3.putObj l (.loop rec'))∧Core F T a l (restrH Ks (lookE s3.h)) rec' O X' (w3.putObj l (.loop rec')):=by
  intro rec'
  generalize hw4:w3.putObj l (.loop rec')=w4
  have sz4:w4.heap.size=w3.heap.size:=by rw[←hw4];simp
  have kp4:∀b,b≠l→w4.heap[b]? =w3.heap[b]? :=fun b hb=>by rw[←hw4];exact World.putObj_heap_other hb
  have lb4:w4.heap[l]? =some (.loop rec'):=by rw[←hw4];exact World.putObj_heap_same hl3
  have oth4:w4.os=w3.os∧w4.tape=w3.tape∧w4.output=w3.output:=by rw[←hw4];exact⟨rfl,rfl,rfl⟩
  have kp4':∀b,b<w3.heap.size→¬X3 b→w4.heap[b]? =w3.heap[b]? :=fun b _ hx=>kp4 b fun e=>hx (e▸hX3l)
  obtain⟨H4,hv4⟩:=H3.restr Ks
  have H5:=H4.turn (Nat.le_of_eq sz4.symm) kp4'
  have E5:=turnEvo H4 (Nat.le_of_eq sz4.symm) kp4'
  have oc:∀b,X3 b→Xc b∨W.heap.size≤b:=fun b hb=>by
   rcases hX3.2 b hb with h|h
   ·exact hX1.2 b h
   ·have h2:w2.heap.size≤b:=h
    rw[sz2]at h2
    exact .inr (Nat.le_trans K1.size h2)
  have old:∀b,b<W.heap.size→b≠l→¬Own βc b→w4.heap[b]? =W.heap[b]? :=fun b hb hne hno=>by
   rw[kp4 b hne]
   have h1:∀k n,(b,n)∉β1 k:=fun k n hm=>by
    rcases K1.own k b n hm with⟨k',n',h⟩|h
    ·exact hno ⟨k',n',h⟩
    ·have:W.heap.size≤b:=h;omega
   have q1:=K3.keep b (by show b<w2.heap.size;rw[sz2];exact Nat.lt_of_lt_of_le hb K1.size) (fun h=>h) h1
   have q2:=K1.keep b hb (fun h=>h) fun k n hm=>hno ⟨k,n,hm⟩
   exact q1.trans ((kp2 b hne).trans q2)
  have KF:Keep F (lookE (restrH Ks (lookE s3.h))) (βr Ks β3) w4:=by
   have k1:Keep F (lookE s.h) β1 w1:=c4.goes G1 nd1 fun k b n hm=>K1.pas k b n hm
   have k2:Keep F (lookE s.h) β1 w2:=k1.turn H1 sz2 kp2' (fun b hb=>kp2 b fun e=>by omega) oth2.1 oth2.2.1 oth2.2.2
   have k3:Keep F (lookE s3.h) β3 w3:=k2.goes G3 nd3 fun k b n hm=>K3.pas k b n hm
   have k4:=k3.restr Ks hKs
   exact k4.turn H4 sz4 kp4' (fun b hb=>kp4 b fun e=>by omega) oth4.1 oth4.2.1 oth4.2.2
  refine⟨fun b=>X b∨Own (βr Ks β3) b∨(X3 b∧¬O b),⟨by omega,fun b hb hx=>⟨old b hb (fun e=>hx (e▸lx)) fun ho=>hx (c8 b ho),fun h'=>?_⟩,fun b hb=> .inl hb,fun b hb=>?_,?_,?_,?_⟩,⟨X3,βr Ks β3,⟨fun b hb=>hX3.1 b (hX1.1 b (c1.1 b hb)),fun b hb=>?_⟩,H5,fun t=>?_,KF,⟨bs,d1,d2,fun b hb=>?_⟩,fun b hb=>?_,fun b hb=> .inr (.inl hb),fun b hb=>?_,hX3l⟩,.inl lx,lo,lb4,ll,fun b hb=>?_,fun k=>?_⟩
  ·rcases h' with h|⟨k,n,hm⟩|⟨h,hO⟩
   ·exact hx h
   ·have hm:=(βr_mem hm).2
    rcases K3.own k b n hm with⟨k',n',h⟩|h
    ·rcases K1.own k' b n' h with⟨k2,n2,h⟩|h
     ·exact hx (c8 b ⟨k2,n2,h⟩)
     ·have:W.heap.size≤b:=h;omega
    ·have h2:w2.heap.size≤b:=h
     have:=K1.size
     have:W.heap.size≤w1.heap.size:=this
     omega
   ·rcases oc b h with h|h
    ·exact(c10 b h).elim hx hO
    ·omega
  ·rcases hb with h|⟨k,n,hm⟩|⟨h,hO⟩
   ·have:=xl b h;omega
   ·rw[sz4];exact H3.lt b (.inr ⟨k,n,(βr_mem hm).2⟩)
   ·rw[sz4];exact H3.lt b (.inl h)
  ·exact oth4.1.trans (K3.os.trans (oth2.1.trans K1.os))
  ·exact oth4.2.1.trans (K3.tape.trans (oth2.2.1.trans K1.tape))
  ·exact oth4.2.2.trans (K3.output.trans (oth2.2.2.trans K1.output))
  ·rcases oc b hb with h|h
   ·exact c1.2 b h
   ·exact .inr (Nat.le_trans c4.size h)
  ·have:=hv4 _ _ ((((c3 t).evo E1).evo E2).evo E3)
   rw[hT]at this
   exact this.evo E5
  ·obtain⟨q1,q2,q3,q4⟩:=d3 b hb
   refine⟨hX3.1 b (hX1.1 b q1),q2,?_,q4⟩
   rw[old b (c2.lt b (.inl q1)) (fun e=>by rw[e,lh]at q3;cases q3) fun ⟨k,n,hm⟩=>c2.free k b n hm q1]
   exact q3
  ·exact⟨hX3.1 b (hX1.1 b (c6 b hb).1),(c6 b hb).2⟩
  ·by_cases hO:O b
   ·exact .inr hO
   ·exact .inl (.inr (.inr ⟨hb,hO⟩))
  ·rcases hb with h|⟨k,n,hm⟩|⟨h,hO⟩
   ·have:=xl b h;omega
   ·rw[sz4];exact H3.lt b (.inr ⟨k,n,(βr_mem hm).2⟩)
   ·rw[sz4];exact H3.lt b (.inl h)
  ·rw[lookE_restrH]
   split
   ·intro h
    rw[Option.map_eq_some_iff]at h
    obtain⟨e,he,h2⟩:=h
    cases e with
    |dead=>exact nd3 k he
    |box cs=>cases h2
    |arr sz xs st=>obtain⟨xs2,fl2,h4,_⟩:=frzE_arr Ks (lookE s3.h) sz xs st;rw[h4]at h2;cases h2
   ·intro h;cases h
 rcases hRq e _ hq with rfl|rfl|⟨id,rfl⟩
 ·obtain⟨X',q1,q2⟩:=key {state:= .ready,pending:=none,fn:=fn,tmps:=a.tmps,params:=ps,assign:=assign,body:=body,defers:=bd}
  exact⟨_,_,run_endRound none lb3,.inl ⟨rfl,X',q1,_,hq,q2⟩⟩
 ·obtain⟨X',q1,q2⟩:=key {state:= .done,pending:=some .ret,fn:=fn,tmps:=a.tmps,params:=ps,assign:=assign,body:=body,defers:=bd}
  exact⟨_,_,run_endRound (some .ret) lb3,.inr ⟨rfl,X',q1,_,.ret,.ret,.inl ⟨rfl,rfl⟩,hq,q2⟩⟩
 ·obtain⟨X',q1,q2⟩:=key {state:= .done,pending:=some (.exit id),fn:=fn,tmps:=a.tmps,params:=ps,assign:=assign,body:=body,defers:=bd}
  exact⟨_,_,run_endRound (some (.exit id)) lb3,.inr ⟨rfl,X',q1,_,.exit id,.exit id,.inr ⟨id,rfl,rfl⟩,hq,q2⟩⟩
end
end
section
theorem alloc_old (w:World) (o:Obj) (b:Nat) (h:b<w.heap.size):(w.alloc o).heap[b]? =w.heap[b]? :=by
 show(w.heap.push o)[b]? =_
 rw[Array.getElem?_push,if_neg (by omega)]
theorem Keep.grow {K0:List Nat} {F:Fr K0} {h:Heap} {β:Map} {w w':World} {X:Nat→Prop} (K:Keep F h β w) (H:HOK X h β w) (hs:w.heap.size≤w'.heap.size) (hk:∀b,b<w.heap.size→w'.heap[b]? =w.heap[b]?) (o1:w'.os=w.os) (o2:w'.tape=w.tape) (o3:w'.output=w.output):Keep F h β w':=
 ⟨K.knd,Nat.le_trans K.size hs,fun b hb hi hn=>by rw[hk b (Nat.lt_of_lt_of_le hb K.size)];exact K.keep b hb hi hn,K.own,K.pas,fun k b n hm=>by
  rw[←K.bs k b n hm]
  obtain⟨n',_,hm'⟩:=K.pas k b n hm
  unfold bsize World.shape?
  rw[hk b (H.lt b (.inr ⟨k,n',hm'⟩))],o1.trans K.os,o2.trans K.tape,o3.trans K.output⟩
section
variable {P:Program} {K0:List Nat} {F:Fr K0} {m:Nat} {st:St} {T:List (Nat×AV)} {a:Act} {l:Nat} {hc:List (Nat×Ent)} {rec:Loop} {O X:Nat→Prop} {W:World}
theorem Core.rel (C:Core F T a l hc rec O X W) (hit:F.it=false) (hT:∀i,look T GS≠ .gh i) (gs:m≤GS) (hl:a.tmps.size=m) (o:Obj):RelS F m ⟨T,hc⟩ a (W.putObj l o):=by
 obtain⟨⟨Xc,βc,c1,c2,c3,c4,⟨bs,d1,d2,d3⟩,c6,c8,c10,c11⟩,lx,lo,lh,ll,xl,nd⟩:=C
 have sz:(W.putObj l o).heap.size=W.heap.size:=by simp
 have kp:∀b,b≠l→(W.putObj l o).heap[b]? =W.heap[b]? :=fun b hb=>World.putObj_heap_other hb
 have kp':∀b,b<W.heap.size→¬Xc b→(W.putObj l o).heap[b]? =W.heap[b]? :=fun b _ hx=>kp b fun e=>hx (e▸c11)
 refine⟨⟨Xc,βc,c1,c2.turn (Nat.le_of_eq sz.symm) kp',fun t=>(c3 t).evo (turnEvo c2 (Nat.le_of_eq sz.symm) kp'),c4.turn c2 sz kp' (fun b hb=>kp b fun e=>by omega) rfl rfl rfl,fun i hi=>absurd hi (hT i),bs,d1,(fun h=>by rw[hit]at h;cases h),d2,fun b hb=>?_⟩,nd,gs,hl⟩
 obtain⟨q1,q2,q3,q4⟩:=d3 b hb
 exact⟨q1,q2,by rw[kp b fun e=>by rw[e,lh]at q3;cases q3];exact q3⟩
def rfQ (Ks:List Nat) (h':List (Nat×Ent)) (p:Prop) (Q:Exit→St→Prop) (T:List (Nat×AV)):Exit→St→Prop
 | .normal,s=>restrH Ks (lookE s.h)=h'∧p
 | .ret,s=>Q .ret ⟨T,restrH Ks (lookE s.h)⟩
 | .exit id,s=>Q (.exit id) ⟨T,restrH Ks (lookE s.h)⟩
 |_,_=>False
theorem sim_rangeFunc {g:Operand} {ps:Array Tmp} {assign body:Code} {f:Nat} {caps:List AV} {h0:List (Nat×Ent)} {xs:List (List AV)} {Q:Exit→St→Prop} (hF:F.ro=none∧F.it=false) (hit:IterSim P f caps h0 xs) (hg:opv (look st.tm) g= .fn f caps)
  (Ks ts:List Nat) (hKs:K0.all (Ks.contains ·)=true) (hdis:Ks.all (fun k=>!(keys h0).contains k)=true) (hh0:(keys h0).map (lookE st.h)=(keys h0).map (lookE h0)) (hcl:h0.all (fun p=>clE (keys h0) p.2)=true)
  (hcap:(refsL caps).all ((keys h0).contains ·)=true) (hts:ts.all (fun t=>(look st.tm t).refs.all (fun k=>!(keys h0).contains k))=true)
  (hks:Ks.all (fun k=>match lookE st.h k with|some (.box cs)=>(refsL cs).all (fun j=>!(keys h0).contains j)|_=>true)=true) (hgs:ts.all (fun t=>!(Nat.beq t GS))=true) (hps:ps.toList.all (Nat.blt · m)=true) (hpl:∀(i:Nat) ys,xs[i]? =some ys→ps.size=ys.length)
  (H:Nat→List (Nat×Ent)) (I:Nat→Prop) {T:List (Nat×AV)} (e0:restr Ks ts st=⟨T,H 0⟩) (i0:I 0)
  (round:∀(i:Nat) ys l,xs[i]? =some ys→I i→∀(F1:Fr (keys (H i))),F1.it=true→F1.ro=some l→Sim P F1 m assign ⟨setTm ps.toList ys T,H i⟩ (fun e s=>e= .normal∧∀(F2:Fr (keys s.h)),F2.it=true→F2.ro=some l→Sim P F2 m body s (rfQ Ks (H (i+1)) (I (i+1)) Q T)))
  (done:I xs.length→Q .normal ⟨T,H xs.length⟩) (hnn:nnH st.h=true:=by rfl):Sim P F m (.rangeFunc g ps assign body) st Q:=⟨fun a w R=>by
 rw[hF.1]
 change Code.wpIn Fence.wide 0 P _ _ a w
 obtain⟨⟨X0,β,hX,HH,Ht,KK,_,bs,hds,_,hbn,hbs⟩,nd,gs,hl⟩:=R
 have hK:∀k,k∈keys h0→lookE st.h k=lookE h0 k:=fun k hk=>by
  obtain⟨i,hi⟩:=List.getElem?_of_mem hk
  have:=congrArg (·[i]?) hh0
  simpa [hi]using this
 have hclosed:∀k e,lookE h0 k=some e→clE (keys h0) e=true:=fun k e hk=>by
  obtain⟨p,hp,he⟩:=lookE_pair hk
  have:=List.all_eq_true.1 hcl p hp
  rw[he]at this
  exact this
 have hdis':∀k,k∈keys h0→¬k∈Ks:=fun k h1 h2=>by
  have:=List.all_eq_true.1 hdis k h2
  simp at this
  exact this h1
 have hent:∀k cs,k∈Ks→lookE st.h k=some (.box cs)→∀j,j∈refsL cs→¬j∈keys h0:=fun k cs hk he j hj h1=>by
  have:=List.all_eq_true.1 hks k hk
  rw[he]at this
  have:=List.all_eq_true.1 this j hj
  simp at this
  exact this h1
 have hK0:∀k,k∈K0→k∈Ks:=fun k hk=>by simpa using List.all_eq_true.1 hKs k hk
 have hTt:T=ts.map fun t=>(t,frzV Ks (lookE st.h) (look st.tm t)):=by have:=congrArg St.tm e0;exact this.symm
 have hH0:restrH Ks (lookE st.h)=H 0:=congrArg St.h e0
 have hlook:∀t,look T t=if t∈ts then frzV Ks (lookE st.h) (look st.tm t)else .bot:=fun t=>by
  rw[←look_restr Ks ts st t,e0]
 have hTi:∀t h',frzV Ks h' (look T t)=look T t:=fun t h'=>by
  rw[hlook]
  split
  ·exact frz_idem _ _ _ _
  ·rfl
 have hTg:∀i,look T GS≠ .gh i:=fun i=>by
  rw[hlook]
  split
  ·rename_i h
   have:=List.all_eq_true.1 hgs GS h
   simp at this
  ·intro h;cases h
 have hfv:=opv_rep Ht g
 rw[hg]at hfv
 obtain⟨cv,hfx,hcvl,hcv⟩:∃cv:Array Value,a.eval g= .func (.func f) #[] cv∧cv.size=caps.length∧∀(i:Nat) v,caps[i]? =some v→RepV w (Dom X0 β) (lookE st.h) β v (cv.getD i undef):=by
  generalize a.eval g=cx at hfv
  cases hfv with
  |fz _ _ hf=>cases hf
  |fn _ _ c hl hh=>exact⟨c,rfl,hl,hh⟩
 refine wpIn_rangeFunc (F:=Fence.wide) (n:=0) fun fn _=>?_
 generalize hrec:({state:= .ready,pending:=none,fn:=fn,tmps:=a.tmps,params:=ps,assign:=assign,body:=body,defers:=w.heap.size}:Loop)=rec
 obtain⟨w1,hw1⟩:∃w1,w1=(w.alloc (.deferred (some []))).alloc (.loop rec):=⟨_,rfl⟩
 have sz1:w1.heap.size=w.heap.size+2:=by rw[hw1];simp
 have kp1:∀b,b<w.heap.size→w1.heap[b]? =w.heap[b]? :=fun b hb=>by rw[hw1,alloc_old _ _ b (by simp;omega),alloc_old _ _ b hb]
 have hbd:w1.heap[w.heap.size]? =some (.deferred (some [])):=by rw[hw1,alloc_old _ _ _ (by simp)];exact World.alloc_heap_new _ _
 have hlp:w1.heap[w.heap.size+1]? =some (.loop rec):=by
  rw[hw1]
  have:=World.alloc_heap_new (w.alloc (.deferred (some []))) (.loop rec)
  simpa using this
 have oth1:w1.os=w.os∧w1.tape=w.tape∧w1.output=w.output:=by rw[hw1];exact⟨rfl,rfl,rfl⟩
 have hent1:(Instr.enterLoop fn a.tmps ps assign body none).run P w= .ok (w.heap.size+1,[{target:= .collected w.heap.size,args:= #[]}]) w1:=by
  rw[hw1,←hrec];exact run_enterLoop_outer fn a.tmps ps assign body
 generalize hl0:w.heap.size+1=l at hlp hent1
 let a':Act:={a with defers:=[{target:= .collected w.heap.size,args:= #[]}]++a.defers}
 let J:Nat→(Nat→Prop)→(Nat→Prop)→World→Prop:=fun i O X W=>(i≤xs.length∧I i∧Core F T a' l (H i) rec O X W)∨
  (xs.length<i∧∃h' x c,jumpOf x c∧Q x ⟨T,h'⟩∧Core F T a' l h' {rec with state:= .done,pending:=some c} O X W)
 have Jst:∀i O X w w' O',J i O X w→w.heap.size≤w'.heap.size→(∀b,b<w.heap.size→¬O b→w'.heap[b]? =w.heap[b]?)→(∀b,O' b→O b∨w.heap.size≤b)→(∀b,O' b→b<w'.heap.size)→w'.os=w.os→w'.tape=w.tape→w'.output=w.output→J i O' X w':=by
  rintro i O X v v' O' (⟨h1,hI,h2⟩|⟨h1,h',x,c,h2,h3,h4⟩) q1 q2 q3 q4 q5 q6 q7
  ·exact .inl ⟨h1,hI,h2.stab q1 q2 q3 q4 q5 q6 q7⟩
  ·exact .inr ⟨h1,h',x,c,h2,h3,h4.stab q1 q2 q3 q4 q5 q6 q7⟩
 let O0:Nat→Prop:=Own (βr (keys h0) β)
 let Xa:Nat→Prop:=fun b=>X0 b∨∃k n,k∈keys h0∧(b,n)∈β k
 let Xc:Nat→Prop:=fun b=>Xa b∨b=w.heap.size∨b=l
 let Xi:Nat→Prop:=fun b=>X0 b∨Own (βr Ks β) b
 let X1:Nat→Prop:=fun b=>Xi b∨b=w.heap.size∨b=l
 have hOlt:∀b,O0 b→b<w.heap.size:=fun b ⟨k,n,hm⟩=>HH.lt b (.inr ⟨k,n,(βr_mem hm).2⟩)
 have hXalt:∀b,Xa b→b<w.heap.size:=fun b hb=>hb.elim (fun h=>HH.lt b (.inl h)) fun ⟨k,n,_,hm⟩=>HH.lt b (.inr ⟨k,n,hm⟩)
 have hXilt:∀b,Xi b→b<w.heap.size:=fun b hb=>hb.elim (fun h=>HH.lt b (.inl h)) fun ⟨k,n,hm⟩=>HH.lt b (.inr ⟨k,n,(βr_mem hm).2⟩)
 have hOX:∀b,O0 b→¬X0 b:=fun b ⟨k,n,hm⟩ hx=>HH.free k b n (βr_mem hm).2 hx
 obtain⟨H1,hv1⟩:=HH.restrX (X':=Xa) Ks (keys h0) (fun b hb=>hb) hdis' (nnH_at hnn) hent
 have Q1:Quiet Xa Xc w w1:=⟨by omega,fun b hb hx=>⟨kp1 b hb,fun h=>by
  rcases h with h|h|h
  ·exact hx h
  ·omega
  ·omega⟩,fun b hb=> .inl hb,fun b hb=>by
  rcases hb with h|h|h
  ·have:=hXalt b h;omega
  ·omega
  ·omega,oth1.1,oth1.2.1,oth1.2.2⟩
 obtain⟨H2,hv2⟩:=lend (Xc:=Xi) HH hK hclosed (fun b hb=>by
  rcases hb with h|⟨k,n,hm⟩
  ·exact .inl h
  ·obtain⟨hk,hm⟩:=βr_mem hm
   exact .inr ⟨k,n,fun h=>hdis' k h hk,hm⟩)
 have Q2:Quiet Xi X1 w w1:=⟨by omega,fun b hb hx=>⟨kp1 b hb,fun h=>by
  rcases h with h|h|h
  ·exact hx h
  ·omega
  ·omega⟩,fun b hb=> .inl hb,fun b hb=>by
  rcases hb with h|h|h
  ·have:=hXilt b h;omega
  ·omega
  ·omega,oth1.1,oth1.2.1,oth1.2.2⟩
 have C0:Core F T a' l (H 0) rec O0 X1 w1:=by
  rw[←hH0]
  refine⟨⟨Xc,βr Ks β,⟨fun b hb=> .inl (.inl (hX.1 b hb)),fun b hb=>?_⟩,Q1.hok H1,fun t=>?_,(KK.restr Ks hK0).grow H1 (by omega) kp1 oth1.1 oth1.2.1 oth1.2.2,⟨w.heap.size::bs,?_,?_,fun b hb=>?_⟩,fun b hb=>?_,fun b hb=> .inl (.inr hb),fun b hb=>?_,.inr (.inr rfl)⟩,.inr (.inr rfl),fun h=>?_,hlp,?_,Q2.lt,fun k=>?_⟩
  ·rcases hb with(h|⟨k,n,hk,hm⟩)|h|h
   ·exact hX.2 b h
   ·rcases KK.own k b n hm with⟨k',n',h⟩|h
    ·exfalso
     obtain⟨n'',_,hm'⟩:=KK.pas k' b n' h
     have:=HH.disj k k' b n n'' hm hm'
     subst this
     exact hdis' k hk (hK0 k (F.hK k b n' h))
    ·exact .inr h
   ·exact .inr (by have:=KK.size;omega)
   ·exact .inr (by have:=KK.size;omega)
  ·rw[hlook]
   split
   ·rename_i ht
    exact(hv1 _ _ (fun j hj h1=>by
     have:=List.all_eq_true.1 hts t ht
     have:=List.all_eq_true.1 this j hj
     simp at this
     exact this h1) (Ht t)).evo (Q1.evo H1)
   ·exact .fz _ _ (.bot _)
  ·show [_]++a.defers=_
   rw[hds];rfl
  ·refine List.nodup_cons.2 ⟨fun h=>?_,hbn⟩
   have:=HH.lt _ (.inl (hbs _ h).1)
   omega
  ·rcases List.mem_cons.1 hb with rfl|hb
   ·exact⟨.inr (.inl rfl),KK.size,hbd,fun h=>by have:=hOlt _ h;omega⟩
   ·obtain⟨q1,q2,q3⟩:=hbs b hb
    exact⟨.inl (.inl q1),q2,by rw[kp1 b (HH.lt b (.inl q1))];exact q3,fun h=>hOX b h q1⟩
  ·obtain⟨k,n,hm⟩:=hb
   obtain⟨hk,hm⟩:=βr_mem hm
   refine⟨.inl (.inr ⟨k,n,hk,hm⟩),?_,fun h=>HH.free k b n hm (hX.1 b h)⟩
   rcases KK.own k b n hm with⟨k',n',h⟩|h
   ·exfalso
    obtain⟨n'',_,hm'⟩:=KK.pas k' b n' h
    have:=HH.disj k k' b n n'' hm hm'
    subst this
    exact hdis' k hk (hK0 k (F.hK k b n' h))
   ·exact h
  ·rcases hb with(h|⟨k,n,hk,hm⟩)|h|h
   ·exact .inl (.inl (.inl h))
   ·exact .inr ⟨k,n,by rw[βr_in hk];exact hm⟩
   ·exact .inl (.inr (.inl h))
   ·exact .inl (.inr (.inr h))
  ·have:=hOlt _ h;omega
  ·have:=KK.size;omega
  ·rw[lookE_restrH]
   split
   ·intro h
    rw[Option.map_eq_some_iff]at h
    obtain⟨e,he,h2⟩:=h
    cases e with
    |dead=>exact nd k he
    |box cs=>cases h2
    |arr sz xs fl=>obtain⟨xs2,fl2,h4,_⟩:=frzE_arr Ks (lookE st.h) sz xs fl;rw[h4]at h2;cases h2
   ·intro h;cases h
 let Fi:Fr (keys h0):=⟨X1,w1,βr (keys h0) β,lookE h0,fun k b n hm=>(βr_mem hm).1,fun k e he=>lookE_mem he,none,true,X1,J,Jst⟩
 have call:=hit.sim l cv Fi ⟨rfl,fun _ h=>h⟩ rfl rfl hcvl (Q2.hok H2) (fun i v hv=>(hv2 v _ (hcv i v hv) (fun k hk=>by
   have:=List.all_eq_true.1 hcap k (refsL_at hv hk)
   simpa using this)).evo (Q2.evo H2)) (.inl ⟨Nat.zero_le _,i0,C0⟩) (by
  intro i ys X O W cs hys hj hcs hrep
  have hilt:i<xs.length:=(List.getElem?_eq_some_iff.1 hys).1
  rcases hj with⟨_,hI,C⟩|⟨h,_⟩
  case inr=>omega
  have hd:=C.round (P:=P) (m:=m) (Ks:=Ks) (ys:=ys) (cs:=cs) (Rq:=fun e h'=>(e= .normal∧h'=H (i+1)∧I (i+1))∨((e= .ret∨∃id,e= .exit id)∧Q e ⟨T,h'⟩)) (fun p hp=>by simpa using List.all_eq_true.1 hps p hp) (show a'.tmps.size=m from hl) gs hrec.symm hTi hK0 hcs (hpl i ys hys) hrep
   (fun e h hq=>by
    rcases hq with⟨rfl,_⟩|⟨h|h,_⟩
    ·exact .inl rfl
    ·exact .inr (.inl h)
    ·exact .inr (.inr h)) (fun F1 f1 f2=>(round i ys l hys hI F1 f1 f2).mono fun e s ⟨he,hb⟩=>⟨he,fun F2 g1 g2=>(hb F2 g1 g2).mono fun e' s' hq=>by
     cases e' with
     |normal=>exact .inl ⟨rfl,hq⟩
     |ret=>exact .inr ⟨.inl rfl,hq⟩
     |exit id=>exact .inr ⟨.inr ⟨id,rfl⟩,hq⟩
     |goto t=>exact hq.elim
     |panic c=>exact hq.elim
     |outgrown=>exact hq.elim⟩)
  obtain⟨fn',tm',as',bo',h1,h2⟩:=hd
  refine⟨fn',tm',as',bo',h1,RoundIn.mono h2 ?_⟩
  rintro e W' (⟨he,X',q,h',hq,C'⟩|⟨he,X',q,h',x,c,hx,hq,C'⟩)
  ·refine .inl ⟨he,X',q,.inl ⟨by omega,?_⟩⟩
   rcases hq with⟨_,rfl,hI'⟩|⟨h|⟨id,h⟩,_⟩
   ·exact⟨hI',C'⟩
   ·cases h
   ·cases h
  ·refine .inr ⟨he,X',q,.inr ⟨by omega,h',x,c,hx,?_,C'⟩⟩
   rcases hq with⟨h,_⟩|⟨_,h⟩
   ·rcases hx with⟨rfl,_⟩|⟨id,rfl,_⟩<;>cases h
   ·exact h)
 refine⟨l,[{target:= .collected w.heap.size,args:= #[]}],w1,{target:= .fn (.func f) cv,args:= #[.func (.yield l) #[] #[]]},w1,f, #[.func (.yield l) #[] #[]]++cv,w1,hent1,?_,fun _ _=>trivial,(by simp only[invoke];exact hit.able _ _),fun h=>by simp[Fence.wide]at h,?_⟩
 ·unfold resolve rangeCall
  dsimp only
  rw[hfx]
  simp[Deferred.ofValue,Act.eval]
 ·refine callsIn_wide.2 (Calls.mono call ?_)
  rintro e w' ⟨⟨v,rfl⟩,i,O,X,hj,hi⟩
  have len':a'.tmps.size=m:=hl
  rcases hj with⟨h1,hI,C⟩|⟨h1,h',x,c,hx,hq,C⟩
  ·obtain rfl:i=xs.length:=by omega
   refine⟨_,_,run_endLoop C.lh (by rw[←hrec];intro h;cases h),?_⟩
   rw[show rec.pending=none by rw[←hrec]]
   exact⟨_,done hI,C.rel hF.2 hTg gs len' _⟩
  ·refine⟨_,_,run_endLoop C.lh (by intro h;cases h),?_⟩
   have R:=C.rel hF.2 hTg gs len' (.loop {({rec with state:= .done,pending:=some c}:Loop)with state:= .exhausted})
   rcases hx with⟨rfl,rfl⟩|⟨id,rfl,rfl⟩
   ·exact wpIn_ret ⟨_,hq,R⟩
   ·exact wpIn_exit ⟨_,hq,R⟩⟩
end
end
end Av
end Go.Proofs.YtaikgchmpieooaaGreat
