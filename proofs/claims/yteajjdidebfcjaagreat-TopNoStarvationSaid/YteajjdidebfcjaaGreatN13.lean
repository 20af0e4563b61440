/- Part 13. -/
import Derived.Test.YteajjdidebfcjaaGreatN12
namespace Go.Proofs.YteajjdidebfcjaaGreat
namespace Av
open Tryz
set_option linter.all false
set_option maxRecDepth 4000
set_option maxHeartbeats 2000000
def XE {α:Type} (p:α->Bool) (l:List α):Int:=if l.any p=true then(l.findIdx p:Int)else -1
def VF {α:Type} {p:α->Bool} {l pre post:List α} {x:α} (h:l=pre++x::post) (hn:∀y∈pre,p y=false) (hx:p x=true):XE p l=(pre.length:Int):=by
 subst h;have h1:(pre++x::post).any p=true:=by simp[hx]
 have h2:pre.findIdx p=pre.length:=List.findIdx_eq_length.2 (λy hy=>by simpa using hn y hy);unfold XE;rw[yBd h1,List.findIdx_append,h2,yBc zB,List.findIdx_cons,hx];simp
def aW {α:Type} {p:α->Bool} {l:List α} (hn:∀y∈l,p y=false):XE p l= -1:=by
 unfold XE;rw[yBc OM]
def IU {α:Type} {p:α->Bool} {l:List α} (h:l.any p=true):0<=XE p l/\XE p l<l.length:=by
 unfold XE;rw[yBd h];have:=List.findIdx_lt_length.2 (yCx.1 h);omega
def zWb (id:Int) (x:Rq):zO 277 [yI x,.ptr 3 0 0] [(3,.box [iA id])] (bA (x.id==id)) [(3,.box [iA id])]:=by
 refine eM call277 λF hF=>?_
 refine WW ?_;exact zK [3] Z Z Z Z
def zWc (id:Int) (l:List Rq) (hb:l.length<=1000):zO 276 [zD yI l,.fn 277 [.ptr 3 0 0]] [(3,.box [iA id])] (iA (XE (λr:Rq=>r.id==id) l)) [(3,.box [iA id])]:=by
 have hl:=zA yI l;refine eM call276 λF hF=>?_
 refine WW ?_;refine kF (l) [3] [3] [0,1,7] [8,0,1,7] Z (λi pre T U zs=>(∀y∈pre,(y.id==id)=false)/\zs=⟨(8,iA i)::T,U⟩) ?_;(conv=>whnf);refine⟨?_,?_,?_⟩
 ·exact⟨by simp,rfl⟩
 ·rintro i pre x post st hx hi ⟨hp,rfl⟩;have hy:=xL yI hx hi;have hlt:=yQ hx hi;have c:=zWb id x;have hit:=VF (p:=λr:Rq=>r.id==id) hx hp
  cases he:(x.id==id)<;>rw[he]at c
  ·clear hx hit;refine zW c ?_;exact⟨λy hy=>by simp only[yBy,yCf]at hy;rcases hy with hy|rfl;exact hp y hy;exact he,rfl⟩
  ·rw[hit he,hi];clear hx hit;refine zW c ?_;exact zK [3] Z Z Z Z
 ·rintro st ⟨hp,rfl⟩;rw[aW hp];refine WW ?_;exact zK [3] rfl rfl rfl rfl
def PW (l:List Rq) (id:Int) (hb:l.length<=1000):zO 248 [zD yI l,iA id] [] (iA (XE (λr:Rq=>r.id==id) l)) []:=by
 have c:=zWc id l hb;generalize XE (λr:Rq=>r.id==id) l=n at *;refine eM call248 λF hF=>?_
 refine zW c ?_;exact zJ
def zWd (now:Int) (x:Rq):zO 177 [yI x,.ptr 3 0 0] [(3,.box [iA now])] (bA (decide (now<=x.til))) [(3,.box [iA now])]:=by
 cases hb:decide (now<=x.til)with
 |false=>
  rw[yBx]at hb;refine eM call177 λF hF=>?_
  refine WW ?_;exact zK [3] Z Z Z Z
 |true=>
  rw[yBi]at hb;refine eM call177 λF hF=>?_
  refine WW ?_;exact zK [3] Z Z Z Z
def zWe (v:Int) (x:Rq):zO 242 [yI x,.ptr 3 0 0] [(3,.box [iA v])] (bA (x.vh != v)) [(3,.box [iA v])]:=by
 refine eM call242 λF hF=>?_
 refine WW ?_;exact zK [3] Z Z Z Z
def zWf (v:Int) (x:Rq):zO 249 [yI x,.ptr 3 0 0] [(3,.box [iA v])] (bA (x.id != v)) [(3,.box [iA v])]:=by
 refine eM call249 λF hF=>?_
 refine WW ?_;exact zK [3] Z Z Z Z
def zLb (l:List Rq) (now:Int):List Rq:=l.filter λx=>decide (now<=x.til)
def DZ (l:List Rq) (v:Int):List Rq:=l.filter λx=>x.vh != v
def zLc (l:List Rq) (id:Int):List Rq:=l.filter λx=>x.id != id
def gB (l:List Rq) (id:Int):Bool:=l.any λx=>x.id==id
def zLd (l:List Rq) (now:Int) (hv:bZ l):zO 131 [zD yI l,iA now] [] (zD yI (zLb l now)) []:=by
 have h4:=hv.n4;have c:=zBd 177 now _ l zB (λr hr=>by have:=hv.lg3 hr;omega) (zWd now);unfold zLb;generalize l.filter _=l2 at *;refine eM call131 λF hF=>?_
 refine zW c ?_;exact zJ
def LW (l:List Rq) (v:Int) (hv:bZ l):zO 221 [zD yI l,iA v] [] (zD yI (DZ l v)) []:=by
 have h4:=hv.n4;have c:=zBd 242 v _ l zB (λr hr=>by have:=hv.lg3 hr;omega) (zWe v);unfold DZ;generalize l.filter _=l2 at *;refine eM call221 λF hF=>?_
 refine zW c ?_;exact zJ
def zLe (l:List Rq) (id:Int) (hv:bZ l):zO 224 [zD yI l,iA id] [] (.tup [zD yI (if gB l id=true then zLc l id else []),iA (if gB l id=true then 0 else 12)]) []:=by
 have h4:=hv.n4;have c1:=VJ l 4 hv zB;have c2:=PW l id zB;have c3:=zBd 249 id _ l zB (λr hr=>by have:=hv.lg3 hr;omega) (zWf id);unfold zLc;generalize l.filter _=l2 at*
 cases hh:gB l id with
 |true=>
  have hx:=IU (p:=λx:Rq=>x.id==id) (l:=l) hh;generalize XE (λx:Rq=>x.id==id) l=n at *;rw[yBd Z,yBd Z];refine eM call224 λF hF=>?_
  refine yS (gW c1 c2 c3) ?_;exact zJ
 |false=>
  have hx:=aW (p:=λx:Rq=>x.id==id) (l:=l) (by simpa [gB]using hh);rw[hx]at c2;rw[yBc yBw,yBc yBw];refine eM call224 λF hF=>?_
  refine yS (vH c1 c2) ?_;exact zJ
def zFr (l:List Rq) (id:Int) (hv:bZ l):yU [zD yI l,iA id] [] (.tup [zD yI (if gB l id=true then zLc l id else []),iA (if gB l id=true then 0 else 12)]) []:=yF
section
variable {P:Program} {K0:List Nat} {F:Fr K0} {m:Nat}
def zQp (n:Nat) {Q:Exit->St->Prop} {id:Nat} {l:List Oper} {st:St} (hm:P.follows .mixedOrders=true)
  (hk:zX P F m l.toArray true (l.take n) st [] (λfs s=>XM l n (MQ l) fs.reverse=true/\zX P F m l.toArray false (l.drop n) s [] (λ_ s=>Q .normal s))):vO P F m (.region id l.toArray true) st Q:=by
 obtain⟨es,st2,h1,h2,h3⟩:=hk.run;exact LZ n hm h1 OO h3.run
def zLf {l:List Oper} {n:Nat} {ops:Array Oper} {st:St} {fs:List FP} {Q':St->Prop} (hc:XM l n (MQ l) fs.reverse=true) (hq:Q' st):zX P F m ops true [] st fs (λfs s=>XM l n (MQ l) fs.reverse=true/\Q' s):=⟨⟨[],st,rfl,hc,hq⟩⟩
end
section
variable {P:Program} {TT:List TI} {st:St}
def CB (hP:uG P TT) {T e:Nat} {x l:Operand} {ti te:TI} {k:IntKind} (hx:yK (zG st.tm) x= .s (.slice none 0 0)) (hl:yK (zG st.tm) l= .s (.int k 0)) (hT:TT[T]? =some ti) (hd:ti.d= .slice e) (he:TT[e]? =some te):
  wP P st (.slice T x (some l) none none) (.s (.slice none 0 0)) [] [] []:=
 yN λoo X tm h w β a ho hg hr HH Ht=>by
  obtain⟨dst,op',type,pos,after,guard⟩:=oo;dsimp only at ho;subst ho;have hc:=vI Ht hg (x:=x) vX hx;obtain⟨u,hu,hd'⟩:=xZ (hP _ _ hT) w;obtain rfl:=vP (hd'.trans hd);have hs:=uT (hP _ _ he) w;have hb:=gO (P:=P) Ht hg (lo:=some l) (hi:=none) (len:=0) (cap:=0) (l:=0) (r:=0) (λy hy=>by cases hy;simp[Op.operands]) (λy hy=>by cases hy) ⟨k,0,hl,zB⟩ rfl (yBg _) (yBg _) true;rw[yEe]at hb;exact⟨_,by simp only[execOp,Instr.sliceAt,Instr.slice,Sem.run_bind,hu,Result.andThen_ok,hc,yEe,hb,hs,Sem.run_pure];rfl,.fz _ _ (.s _)⟩
end
section
variable {P:Program} {TT:List TI} {K0:List Nat} {F:Fr K0} {m:Nat} {ops:Array Oper} {rest:List Oper} {Q:List FP->St->Prop} {tm:List (Nat×AV)} {h:List (Nat×xM)} {dr:Bool} {fs:List FP}
variable {ty:Nat} {pos:String} {after:Array Edge} {t:Nat}
def zA8 (hP:uG P TT) {T e key off len sz:Nat} {d x:Operand} {ti te:TI} {xs yl ys zs:List AV} {xv:AV} (hdv:yK (zG tm) d= .ref key off len) (hk:zC h key=some (.arr sz xs false)) (hx:yK (zG tm) x=xv) (hT:TT[T]? =some ti) (hd:ti.d= .slice e) (he:TT[e]? =some te)
  (hyl:BG (zC h) xv=some yl) (hyt:yl.take len=ys) (hsz:∀y,ys[0]? =some y->y.cells.length=sz) (hp1:1<=ys.length) (hss:Nat.beq sz te.size=true) (hz:xs.take off++ys++xs.drop (off+ys.length)=zs) (hm:Nat.blt t m=true)
  (hr:zX P F m ops dr rest ⟨(t,.s (.int .i64 ys.length))::tm,(key,.arr sz zs false)::h⟩ (⟨true,[key],key::QH xv⟩::fs) Q):zX P F m ops dr (⟨some t,.call ⟨.builtin .copy, #[d,x], #[T,T]⟩,ty,pos,after,none⟩::rest) ⟨tm,h⟩ fs Q:=by
 subst hz;exact qA (nw:=[]) (KO hP hdv hk hx hT hd he hyl hyt hsz (.inl hp1) hss) hm Z Z hr
def zWg (hP:uG P TT) {T e:Nat} {x:Operand} {ti:TI} {k len sz:Nat} {xs:List AV} (hx:yK (zG tm) x= .ref k 0 len) (hk:zC h k=some (.arr sz xs ⟨false,false⟩)) (hT:TT[T]? =some ti) (hd:ti.d= .slice e) (hl:1<=len) (hm:Nat.blt t m=true)
  (hr:∀c:Int,(xs.length:Int)<=c->zX P F m ops false rest ⟨(t,.s (.int .i64 c))::tm,h⟩ fs Q):zX P F m ops false (⟨some t,.call ⟨.builtin .cap, #[x], #[T]⟩,ty,pos,after,none⟩::rest) ⟨tm,h⟩ fs Q:=
 x_m (zBv hP hx hk hT hd hl) hm Z (λv d ⟨c,_,_,e⟩=>by subst e;rfl) (λv d ⟨c,e1,e2,e3⟩=>by subst e1 e3;exact hr c e2)
def zDr (hP:uG P TT) {T e k len sz:Nat} {s x:Operand} {ti te:TI} {xs vs zs:List AV} {xv:AV} (hs:yK (zG tm) s= .ref k 0 len) (hk:zC h k=some (.arr sz xs ⟨false,false⟩)) (hx:yK (zG tm) x=xv) (hT:TT[T]? =some ti) (hd:ti.d= .slice e) (he:TT[e]? =some te) (hvs:BG (zC h) xv=some vs)
  (hss:Nat.beq sz te.size=true) (hsz:∀y,vs[0]? =some y->y.cells.length=sz) (hpos:1<=vs.length) (hl:1<=len) (hroom:len+vs.length<=xs.length) (hmax:xs.length<=1073741824) (hz:xs.take len++vs++xs.drop (len+vs.length)=zs) (hm:Nat.blt t m=true)
  (hr:zX P F m ops dr rest ⟨(t,.ref k 0 (len+vs.length))::tm,(k,.arr sz zs ⟨false,false⟩)::h⟩ (⟨true,[k],k::QH xv⟩::fs) Q):zX P F m ops dr (⟨some t,.call ⟨.builtin .append, #[s,x], #[T,T]⟩,ty,pos,after,none⟩::rest) ⟨tm,h⟩ fs Q:=by
 subst hz;exact qA (nw:=[]) (zGc hP hs hk hx hT hd he hvs hss hsz hpos hl hroom hmax) hm Z Z hr
def zWh (hP:uG P TT) {T I e c n N:Nat} {s x:Operand} {ti te tn:TI} {k0:IntKind} {nx:Int} {ys zs:List AV} {z:AV} (hs:yK (zG tm) s= .slc c ys) (hx:yK (zG tm) x= .s (.int .i64 nx)) (hT:TT[T]? =some ti) (hd:ti.d= .slice e) (he:TT[e]? =some te) (hI:TT[I]? =some tn) (hdn:tn.d= .int k0)
  (hb:Nat.ble te.bytes 65536=true) (hp:Nat.ble 1 te.size=true) (hzl:Nat.beq te.zero.length te.size=true) (hz1:te.zero.all (·.oneCell')=true) (hzc:Nat.beq (vT te).cells.length te.size=true) (hzc2:(vT te).cells=te.zero.map .s) (hz:vT te=z)
  (hnx:nx=(n:Int)) (hpos:1<=n) (hmax:ys.length+n<=1073741824) (hc:c<ys.length+n) (hw0:∀(i:Nat) (y:AV),ys[i]? =some y->y.cells.length=te.size) (hA:ys++List.replicate n z=zs) (hN:zs.length=N) (hm:Nat.blt t m=true) (hnn:(zC h t).isNone=true)
  {sz:Nat} (hse:te.size=sz) (hk:zX P F m ops dr rest ⟨(t,.ref t 0 N)::tm,(t,.arr sz zs false)::h⟩ (⟨true,[t,t],[]⟩::fs) Q):zX P F m ops dr (⟨some t,.call ⟨.builtin .append, #[s,x], #[T,I]⟩,ty,pos,after,none⟩::rest) ⟨tm,h⟩ fs Q:=by
 subst hse hz hN hA;exact qA (nw:=[t]) (zMv hP t hs hx hT hd he hI hdn hb hp hzl hz1 hzc hzc2 hnx hpos hmax hc hw0) hm (zBe hnn) Z hk
end
theorem zLg (xs:List AV) (v:AV) (i:Nat) (hv:v.cells.length=5) (hx:∀y∈xs,y.cells.length=5) (h1:1<=xs.length) (hn:xs.length<=1000) (hi:i<=xs.length):
  zO 275 [.ref 1001 0 xs.length,iA i,.ref 98 0 1] [(1001,.arr 5 (xs++[fS 5]) false),(98,.arr 5 [v] false)] (.ref 1001 0 (xs.length+1)) [(1001,.arr 5 (xs.take i++v::xs.drop i) false),(98,.arr 5 [v] false)]:=by
 have hll:(xs++[fS 5]).length=xs.length+1:=by simp
 by_cases he:i=xs.length
 ·subst he
  have hz:(xs++[fS 5]).take xs.length++[v]++(xs++[fS 5]).drop (xs.length+[v].length)=xs.take xs.length++v::xs.drop xs.length:=by
   rw[yDw (yBg _),yBj,yE6,yE7 zQ];simp
  refine eM call275 λF hF=>?_
  (repeat' (first|refine uC ?_|((first|apply xE|apply xV)<;>intro hc)|(refine zE ?_;first|(refine jI ?_;refine fB tok Z Z Z Z Z Z Z zB zB Z ?_)|(refine yM ?_;refine zDr tok Z Z Z Z Z Z Z Z (λy hy=>by cases hy;exact hv) zQ zB zQ zB hz Z ?_))|fail))
  exact zK [1001,98] Z Z Z Z
 ·have hlt:i<xs.length:=by omega
  have e1:(xs++[fS 5]).drop i=xs.drop i++[fS 5]:=yFz zB;have hdl:(xs.drop i).length=xs.length-i:=yCj
  have hc1:(((xs++[fS 5]).drop i).take (xs.length+1-i)).take (xs.length+1-(i+1))=xs.drop i:=by
   have e3:((xs++[fS 5]).drop i).take (xs.length+1-i)=xs.drop i++[fS 5]:=by rw[e1];exact yBo wU
   rw[e3,yDw zB,yBo zB]
  have hz1:(xs++[fS 5]).take (i+1)++xs.drop i++(xs++[fS 5]).drop (i+1+(xs.drop i).length)=xs.take (i+1)++xs.drop i:=by
   have e3:(xs++[fS 5]).drop (i+1+(xs.drop i).length)=[]:=yE7 (by rw[hll,hdl];omega);rw[e3,yCd,yDw zB]
  have hxd:∀y,(xs.drop i)[0]? =some y->y.cells.length=5:=λy hy=>hx y (yCt (yCz hy))
  have hc2:(([v].drop 0).take 1).take (xs.length+1-i)=[v]:=yBo wU
  have hz2:(xs.take (i+1)++xs.drop i).take i++[v]++(xs.take (i+1)++xs.drop i).drop (i+[v].length)=xs.take i++v::xs.drop i:=by
   have e2:(xs.take (i+1)).length=i+1:=by rw[yB4];omega
   rw[yDw zB,List.take_take,Nat.min_eq_left zB,show i+[v].length=(xs.take (i+1)).length by rw[e2];rfl,List.drop_left,yCa];rfl
  refine eM call275 λF hF=>?_
  (repeat' (first|refine uC ?_|((first|apply xE|apply xV)<;>intro hc)|(refine zE ?_;refine wA ?_;(refine uF 301 ?_;refine wK (GA tok Z Z Z Z Z Z zB zB Z Z Z zB Z Z Z Z Z) Z ?_))|(refine zE ?_;first|(refine jI ?_;first|refine fB tok Z Z Z Z Z Z Z zB zB Z ?_|refine wK (zGa (N:=xs.length+1) tok Z Z Z Z Z Z zB zB zB zB) Z ?_)|(refine zA8 tok Z Z Z Z Z Z Z (by first|exact hc1|exact hc2) (by first|exact hxd|(intro y hy;cases hy;exact hv)) (by first|(rw[hdl];omega)|simp) Z (by first|exact hz1|exact hz2) Z ?_)|(refine zWg tok Z Z Z Z zB Z ?_;intro cp hcp))|fail))
  exact zK [1001,98] Z Z Z Z
theorem zLh (xs:List AV) (v:AV) (i c:Nat) (hv:v.cells.length=5) (hx:∀y∈xs,y.cells.length=5) (h1:1<=xs.length) (hn:xs.length<=1000) (hi:i<=xs.length) (hc:c<xs.length+1):
  zO 275 [.slc c xs,iA i,.ref 98 0 1] [(98,.arr 5 [v] false)] (.sl false (xs.take i++v::xs.drop i)) [(98,.arr 5 [v] false)]:=by
 have hxi:∀(j:Nat) (y:AV),xs[j]? =some y->y.cells.length=5:=λj y hy=>hx y (yCz hy)
 by_cases he:i=xs.length
 ·subst he;refine eM call275 λF hF=>?_
  (repeat' (first|refine uC ?_|((first|apply xE|apply xV)<;>intro hc)|(refine zE ?_;first|(refine wK (BW tok Z Z Z) Z ?_)|(refine jI ?_;refine zBw 10 Z h1 ?_;refine HZ tok Z Z Z Z Z (hxi 0) zB zB Z Z ?_)|(refine yM ?_;refine qA (nw:=[25]) (zGb tok 25 Z Z Z Z Z Z Z Z Z Z (λy hy=>by cases hy;exact hv) zQ wU wU hxi) Z Z Z ?_))|fail))
  refine zK [98] Z Z ?_ Z
  show AV.sl false ((xs++[v]).take (xs++[v]).length)=_
  rw[yBj,yBj,yE6]
 ·have hlt:i<xs.length:=by omega
  have hdl:(xs.drop i).length=xs.length-i:=yCj;have htl:(xs.take i).length=i:=by rw[yB4];omega
  have hxt:∀(j:Nat) (y:AV),(xs.take i)[j]? =some y->y.cells.length=5:=λj y hy=>hx y (yDb (yCz hy))
  have hxd:∀y,(xs.drop i)[0]? =some y->y.cells.length=5:=λy hy=>hx y (yCt (yCz hy))
  have hx0:∀y,xs[0]? =some y->y.cells.length=5:=hxi 0;have hnx:((xs.length:Int)+1-(i:Int))=((xs.length+1-i:Nat):Int):=by omega
  have hzs:∃zs,xs.take i++List.replicate (xs.length+1-i) (AV.agg [.s (.int .i64 0),.s (.int .i64 0),.s (.int .i64 0),.s (.int .i64 0),.s (.slice none 0 0)])=zs:=⟨_,rfl⟩;obtain⟨zs,hA⟩:=hzs;have hN:zs.length=xs.length+1:=by rw[<-hA,yBf,htl,yCw];omega
  have hzt:zs.take i=xs.take i:=by rw[<-hA,yDw zB,yBo zB]
  have hc1:(([v].drop 0).take 1).take (xs.length+1-i)=[v]:=yBo wU;have hc2:(xs.drop i).take (xs.length+1-(i+1))=xs.drop i:=yBo zB;have hz1:zs.take i++[v]++zs.drop (i+[v].length)=xs.take i++[v]++zs.drop (i+1):=by rw[hzt];rfl
  have e2:(xs.take i++[v]).length=i+1:=by rw[yBf,htl];rfl
  have hz2:(xs.take i++[v]++zs.drop (i+1)).take (i+1)++xs.drop i++(xs.take i++[v]++zs.drop (i+1)).drop (i+1+(xs.drop i).length)=xs.take i++v::xs.drop i:=by
   have e3:(xs.take i++[v]++zs.drop (i+1)).drop (i+1+(xs.drop i).length)=[]:=yE7 (by rw[yBf,e2,yCj,hN,hdl];omega);rw[e3,yCd,yDw zB,yBo zB,yCa];rfl
  refine eM call275 λF hF=>?_
  (repeat' (first|refine uC ?_|((first|apply xE|apply xV)<;>intro hc)|(refine zE ?_;first|(refine wK (BW tok Z Z Z) Z ?_)|(refine wK (zMt tok Z Z Z) Z ?_)|(refine jI ?_;first|(refine zBw 10 Z h1 ?_;refine HZ tok Z Z Z Z Z (hxi 0) zB zB Z Z ?_)|refine wK (zMu tok Z Z Z Z Z hi) Z ?_|refine fB tok Z Z Z Z Z Z Z zB zB Z ?_|refine HZ tok Z Z Z Z Z (hxi 0) zB zB Z Z ?_)|(refine yM ?_;refine zWh tok (n:=xs.length+1-i) Z Z Z Z Z Z Z Z Z Z Z Z Z Z hnx zB (by rw[htl];omega) (by rw[htl];omega) hxt hA hN Z Z Z ?_)|(first|(refine zBw 0 Z h1 ?_;refine zA8 tok Z Z Z Z Z Z Z hc1 (λy hy=>by cases hy;exact hv) zQ Z hz1 Z ?_)|refine zA8 tok Z Z Z Z Z Z Z hc2 hxd (by rw[hdl];omega) Z hz2 Z ?_))|fail))
  refine zK [98] Z Z ?_ Z
  show AV.sl false ((xs.take i++v::xs.drop i).take (xs.length+1))=_
  rw[yBo (by rw[yBf,htl,yBp,hdl];omega)]
def zQq (v:AV) (hv:v.cells.length=5):
  zO 275 [.s (.slice none 0 0),iA 0,.ref 98 0 1] [(98,.arr 5 [v] false)] (.sl false [v]) [(98,.arr 5 [v] false)]:=by
 refine eM call275 λF hF=>?_
 (repeat' (first|refine uC ?_|((first|apply xE|apply xV)<;>intro hc)|(refine zE ?_;first|(refine jI ?_;refine wK (CB tok Z Z Z Z Z) Z ?_)|(refine yM ?_;refine kQ tok Z Z Z Z Z Z (λy hy=>by cases hy;exact hv) Z Z Z zQ Z ?_))|fail))
 exact zK [98] Z Z Z Z
def vD (x:Rq):zO 205 [yI x] [] (bA true) []:=by
 refine eM call205 λF hF=>?_
 refine WW ?_;exact zJ
def zLi (l:List Rq) (hn:l.length<=1000) (hb:∀r∈l,r.legs.length<=1000):
  zO 176 [zD yI l,.fn 205 []] [] (.ref 1001 0 (l.map yI).length) [(1001,.arr 5 (l.map yI) false)]:=by
 have hl:=zA yI l;refine eM call176 λF hF=>?_
 refine WW ?_;refine xC 5 1001 5 Z Z Z ?_;refine yO (l) [1001] [] [1,8,9] [5,10,1,8,9] Z (λi pre T U=>⟨(5,.ref 1001 0 (pre.map yI).length)::(10,iA i)::T,(1001,.arr 5 (pre.map yI) true)::U⟩) ?_;(conv=>whnf);refine⟨by rfl,?_,?_⟩
 ·intro i pre x post hx hi;have hy:=xL yI hx hi;have hlt:=yQ hx hi;have hlm:=zA yI pre;have c1:=vD x;have c2:=VL x (hb x (wZ hx));have e:(pre++[x]).map yI=pre.map yI++[yI x]:=by simp
  rw[e];clear hx e;generalize pre.map yI=R at *;refine yS (vH c1 c2) ?_;rfl
 ·(repeat' (first|refine WZN ?_|((first|apply xE|apply xV)<;>intro hc)|fail))
  refine kM [1001] [4] Z Z ?_;refine BT 1001 [4] Z Z Z Z Z (yZ ?_);exact zK [1001] Z Z Z Z
def zLj:zO 176 [zD yI [],.fn 205 []] [] (.s (.slice none 0 0)) []:=by
 refine eM call176 λF hF=>?_
 refine WW ?_;refine yO (([]:List Rq)) [] [] [1,8,9] [5,10,1,8,9] Z (λi pre T U=>⟨(5,.s (.slice none 0 0))::(10,iA i)::T,U⟩) ?_;(conv=>whnf);refine⟨by rfl,?_,?_⟩
 ·intro i pre x post hx hi
  cases pre<;>cases hx
 ·(refine WW ?_)
  exact zK [] Z Z Z Z
def IV (l:List Rq) (hn:l.length<=1000) (hb:∀r∈l,r.legs.length<=1000):
  zO 171 [zD yI l] [] (.ref 1001 0 (l.map yI).length) [(1001,.arr 5 (l.map yI) false)]:=by
 have c:=zLi l hn hb;refine eM call171 λF hF=>?_
 refine zW c ?_;exact zK [1001] Z Z Z Z
def VG:zO 171 [zD yI []] [] (.s (.slice none 0 0)) []:=by
 have c:=zLj;refine eM call171 λF hF=>?_
 refine zW c ?_;exact zK [] Z Z Z Z
section
variable {P:Program} {K0:List Nat} {F:Fr K0} {m:Nat}
def zDs (n len:Nat) {Q:Exit->St->Prop} {id:Nat} {l:List Oper} {st:St} (hlen:Nat.beq l.length len=true) (hm:P.follows .mixedOrders=true)
 (hk:zX P F m l.toArray true (l.take n) st [] (λfs s=>XM l n (MQ l) fs.reverse=true/\zX P F m l.toArray false (l.drop n) s [] (λ_ s=>Q .normal s))):vO P F m (.region id l.toArray true) st Q:=zQp n hm hk
end
def SP (l:List Rq) (id:Int):Nat:=l.findIdx λr=>!decide (r.id<id)
def IW (l:List Rq) (id:Int):SP l id<=l.length:=List.findIdx_le_length
def zLk {l:List Rq} {id:Int} {i:Nat} (h:i<SP l id):(l.getD i default).id<id:=by
 have h1:=IW l id;have:=List.not_of_lt_findIdx h;simpa [List.getD,show i<l.length by omega]using this
def zLl {l:List Rq} {id:Int} (h:SP l id<l.length):¬(l.getD (SP l id) default).id<id:=by
 have:=List.findIdx_getElem (p:=λr:Rq=>!decide (r.id<id)) (w:=h);have h2:SP l id<l.length:=h;simp only[yDj,yBx]at this;intro h3;refine this ?_;rw[yBl,yBu h2]at h3;exact h3
def cY (id:Int) (v:Vh) (life:Int) (x:List Lg) (now:Int):Rq:=⟨id,v.id,v.cls,now+life,x⟩
def bQ (l:List Rq) (r:Rq):List Rq:=l.take (SP l r.id)++r::l.drop (SP l r.id)
def suE (l:List Rq) (q id life:Int) (x:List Lg):Int:=
 if¬(0<=id/\id<=4294967295/\1<=life/\life<=600/\MM x=true)then 8 else if gB l id=true then 11 else if q<=l.length∨4<=(l.length:Int)then 14 else 0
theorem zLm (l:List Rq) (q id:Int) (v:Vh) (life:Int) (x:List Lg) (now:Int) (hv:bZ l) (hq:(l.length:Int)<=q) (v0:0<=v.id) (v1:v.id<=4294967295) (w0:0<=v.cls) (w1:v.cls<=3) (n0:0<=now) (n1:now<=1073741824):
  zO 245 [zD yI l,iA q,iA id,vY v,iA life,zD xS x,iA now] [] (.tup [zD yI (if suE l q id life x=0 then bQ l (cY id v life x now)else []),iA (suE l q id life x)]) []:=by
 have h4:=hv.n4;have hl:=zA yI l;have c1:=VJ l q hv hq;have c2:=OA v.id;have c3:=zBa v.cls;have c4:=zDy now;have c5:=OA id;have c6:=zDx x;have c7:=PW l id zB;rw[yBk ⟨v0,v1⟩]at c2;rw[yBk ⟨w0,w1⟩]at c3;rw[yBk ⟨n0,n1⟩]at c4;by_cases g1:0<=id/\id<=4294967295
 case neg=>
  rw[yBm g1]at c5;have e:suE l q id life x=8:=yBd λh=>g1 ⟨h.1,h.2.1⟩
  rw[e,yBc xO];refine eM call245 λF hF=>?_
  refine yS (zt5 c1 c2 c3 c4 c5) ?_;exact zJ
 rw[yBk g1]at c5;by_cases g2:1<=life/\life<=600
 case neg=>
  have e:suE l q id life x=8:=yBd λh=>g2 ⟨h.2.2.1,h.2.2.2.1⟩
  rw[e,yBc xO];by_cases g3:1<=life
  ·(refine eM call245 λF hF=>?_)
   refine yS (zt5 c1 c2 c3 c4 c5) ?_;exact zJ
  ·(refine eM call245 λF hF=>?_)
   refine yS (zt5 c1 c2 c3 c4 c5) ?_;exact zJ
 obtain⟨g2,g3⟩:=g2
 cases hg:MM x with
 |false=>
  rw[hg]at c6;have e:suE l q id life x=8:=yBd λh=>yBw (hg.symm.trans h.2.2.2.2)
  rw[e,yBc xO];refine eM call245 λF hF=>?_
  refine yS (zt6 c1 c2 c3 c4 c5 c6) ?_;exact zJ
 |true=>
 rw[hg]at c6
 have e0:suE l q id life x=if gB l id=true then 11 else if q<=l.length∨4<=(l.length:Int)then 14 else 0:=yBc λh=>h ⟨g1.1,g1.2,g2,g3,hg⟩
 cases hh:gB l id with
 |true=>
  have hx:=IU (p:=λx:Rq=>x.id==id) (l:=l) hh;generalize XE (λx:Rq=>x.id==id) l=n at *;have e:suE l q id life x=11:=by rw[e0,yBd hh]
  rw[e,yBc xO];refine eM call245 λF hF=>?_
  refine yS (zt7 c1 c2 c3 c4 c5 c6 c7) ?_;exact zJ
 |false=>
 have hx:=aW (p:=λx:Rq=>x.id==id) (l:=l) (by simpa [gB]using hh);rw[hx]at c7;rw[yBc (by rw[hh];decide)]at e0;by_cases g4:q<=l.length∨4<=(l.length:Int)
 case pos=>
  rw[yBd g4]at e0;rw[e0,yBc xO];by_cases g5:q<=l.length
  ·(refine eM call245 λF hF=>?_)
   refine yS (zt7 c1 c2 c3 c4 c5 c6 c7) ?_;exact zJ
  ·have g6:4<=(l.length:Int):=g4.resolve_left g5;refine eM call245 λF hF=>?_
   refine yS (zt7 c1 c2 c3 c4 c5 c6 c7) ?_;exact zJ
 rw[yBc g4]at e0;rw[e0,yBd Z];have hxl:=IZ hg;have c8:=cI x zB;have hk:=IW l id;have hk1:=λi h=>zLk (l:=l) (id:=id) (i:=i) h
 have hk2:=zLl (l:=l) (id:=id)
 have hiQ:(l.map yI).take (SP l id)++yI (cY id v life x now)::(l.map yI).drop (SP l id)=(bQ l (cY id v life x now)).map yI:=by
  unfold bQ cY;rw[yBn,yCh,yFe,yFd]
 have hiL:((bQ l (cY id v life x now)).map yI).length=(l.map yI).length+1:=by
  rw[<-hiQ,yBf,yBp,yB4,yCj];omega
 have h5:∀y∈l.map yI,y.cells.length=5:=λy hy=>by
  obtain⟨r,_,rfl⟩:=yCc.1 hy;rfl
 have r1:=λh=>zLg (l.map yI) (yI (cY id v life x now)) (SP l id) Z h5 h zB zB
 have r2:=λh c hc=>zLh (l.map yI) (yI (cY id v life x now)) (SP l id) c Z h5 h zB zB hc
 have r3:=zQq (yI (cY id v life x now)) Z;rw[hiQ]at r1 r2;have d1:=IV l zB (λr hr=>by have:=hv.lg3 hr;omega);clear hv hg;have hR:zD yI (bQ l (cY id v life x now))=AV.sl false ((bQ l (cY id v life x now)).map yI):=rfl;rw[hR];by_cases hn0:l=[]
 ·subst hn0;have d0:=VG;have hY:(bQ [] (cY id v life x now)).map yI=[yI (cY id v life x now)]:=rfl;rw[hY];clear r1 r2 hY hR hiQ hiL;refine eM call245 λF hF=>?_
  refine yS (zt7 c1 c2 c3 c4 c5 c6 c7) ?_;refine zN (0) [10] [10] [0,2,4,5,6,10] [16,0,2,4,5,6,10] Z (λi T U=>⟨(16,iA i)::T,U⟩) ?_;(conv=>whnf);refine⟨by rfl,?_,?_⟩
  ·intro i hi;omega
  ·(refine yS (gW c8 d0 r3) ?_)
   exact zJ
 have hl1:1<=l.length:=by
  cases l with
  |nil=>exact absurd Z hn0
  |cons a b=>simp
 have r1:=r1 zB;have r2:=r2 zB;clear r3 hR hiQ;generalize (bQ l (cY id v life x now)).map yI=Y at *;refine eM call245 λF hF=>?_
 refine yS (zt7 c1 c2 c3 c4 c5 c6 c7) ?_;refine zN (SP l id) [10] [10] [0,2,4,5,6,10] [16,0,2,4,5,6,10] Z (λi T U=>⟨(16,iA i)::T,U⟩) ?_;(conv=>whnf);refine⟨by rfl,?_,?_⟩
 ·intro i hi;have hy:=zM yI l i zB;have hlt:=hk1 i hi;generalize l.getD i default=r at *;refine WW ?_;rfl
 ·clear hk1;by_cases hkl:SP l id<l.length
  case' pos=>
   have hy:=zM yI l (SP l id) hkl;have hge:=hk2 hkl;generalize l.getD (SP l id) default=r at*
  all_goals clear hk2
  all_goals generalize SP l id=k at*
  all_goals (have zc1:=c8;have zc2:=d1;(repeat' (first|refine WS ?_|refine SG (I2 (λhc=>?_) λhc=>?_)|refine SG λhc=>?_|(refine zE ?_;first|refine SM ?_)|(first|refine zDs 5 8 Z Z ?_|first|refine SR ?_|refine SK (I2 (λhc=>?_) λhc=>?_)|refine SK λhc=>?_|fail)|fail))<;>clear zc1 zc2)
  all_goals refine zLf TM ?_
  all_goals refine zWx 95 1001 ((l.map yI).length+1) [98] [96,98] (st':=⟨[(96,iA k),(98,.ref 98 0 1)],[(98,.arr 5 [yI (cY id v life x now)] false)]⟩) Z Z zB zB zB Z Z Z (λc hc=>?_) ?_
  case' pos.refine_1|neg.refine_1=>
   have r2:=r2 c hc;refine zW r2 ?_;exact zJ
  all_goals rw[show(l.map yI).length+1-(l.map yI).length=1 by omega]
  all_goals (refine zW r1 ?_)
  all_goals (refine zH [] Z Z ?_ Z;show AV.tup [AV.sl false (Y.take ((l.map yI).length+1)),iA 0]=_;rw[yBo zB])
def fdQ (l:List Rq) (id:Int):Rq:=(l.find? λx=>x.id==id).getD ⟨0,0,0,0,[]⟩
def zDt {l pre post:List Rq} {x:Rq} {id:Int} (h:l=pre++x::post) (hn:∀y∈pre,y.id≠id) (hx:x.id=id):fdQ l id=x/\gB l id=true:=by
 subst h;have h1:pre.find? (λv=>v.id==id)=none:=yGg.2 λy hy=>by simpa using hn y hy
 refine⟨?_,by simp[gB,hx]⟩;unfold fdQ;rw[yG7,h1];simp[hx]
def uX (r:Rq) (k:Nat):AV:= .agg [iA r.id,iA r.vh,iA r.cls,iA r.til,.ref k 0 (r.legs.map xS).length]
def fH (r:Rq):xM:= .arr 5 (r.legs.map xS) false
def MI (l:List Lg) (h1:1<=l.length) (hl:l.length<=1000):zO 167 [zD xS l] [] (.ref 1101 0 (l.map xS).length) [(1101,.arr 5 (l.map xS) false)]:=by
 have hll:=zA xS l;refine eM call167 λF hF=>?_
 refine yY 0 Z (λcap hx=>?_) ?_
 ·have:l=[]:=by simpa using hx
  subst this;simp at h1
 ·(repeat' (first|refine WV ?_|refine SG (I2 (λhc=>?_) λhc=>?_)|refine SG λhc=>?_|(refine zE ?_;first|(refine yR ?_;refine qA (nw:=[1101]) (yJ tok 1101 (xs:=[]) Z Z Z Z Z Z Z Z Z) Z Z Z ?_))|refine SB ?_|(first|refine xT ?_|refine xI ?_|refine vJ Z ?_|refine zZ Z ?_|refine zV Z ?_|refine xQ Z (λhc=>?_) λhc=>?_|refine xD ?_|refine yZ ?_|refine xJ ?_|refine yX ?_)|fail))
  exact zK [1101] Z Z Z Z
def jW (r:Rq) (h1:1<=r.legs.length) (hl:r.legs.length<=1000):zO 209 [yI r] [] (uX r 1101) [(1101,fH r)]:=by
 have c:=MI r.legs h1 hl;have hll:=zA xS r.legs;refine eM call209 λF hF=>?_
 refine zW c ?_;exact zK [1101] Z Z Z Z
def MJ (l:List Lg) (h1:1<=l.length) (hl:l.length<=1000):zO 167 [zD xS l] [] (.ref 1102 0 (l.map xS).length) [(1102,.arr 5 (l.map xS) false)]:=by
 have hll:=zA xS l;refine eM call167 λF hF=>?_
 refine yY 0 Z (λcap hx=>?_) ?_
 ·have:l=[]:=by simpa using hx
  subst this;simp at h1
 ·(repeat' (first|refine WV ?_|refine SG (I2 (λhc=>?_) λhc=>?_)|refine SG λhc=>?_|(refine zE ?_;first|(refine yR ?_;refine qA (nw:=[1102]) (yJ tok 1102 (xs:=[]) Z Z Z Z Z Z Z Z Z) Z Z Z ?_))|refine SB ?_|(first|refine xT ?_|refine xI ?_|refine vJ Z ?_|refine zZ Z ?_|refine zV Z ?_|refine xQ Z (λhc=>?_) λhc=>?_|refine xD ?_|refine yZ ?_|refine xJ ?_|refine yX ?_)|fail))
  exact zK [1102] Z Z Z Z
def cZ (r:Rq) (h1:1<=r.legs.length) (hl:r.legs.length<=1000):zO 209 [yI r] [] (uX r 1102) [(1102,fH r)]:=by
 have c:=MJ r.legs h1 hl;have hll:=zA xS r.legs;refine eM call209 λF hF=>?_
 refine zW c ?_;exact zK [1102] Z Z Z Z
def MK (l:List Lg) (h1:1<=l.length) (hl:l.length<=1000):zO 167 [zD xS l] [] (.ref 1103 0 (l.map xS).length) [(1103,.arr 5 (l.map xS) false)]:=by
 have hll:=zA xS l;refine eM call167 λF hF=>?_
 refine yY 0 Z (λcap hx=>?_) ?_
 ·have:l=[]:=by simpa using hx
  subst this;simp at h1
 ·(repeat' (first|refine WV ?_|refine SG (I2 (λhc=>?_) λhc=>?_)|refine SG λhc=>?_|(refine zE ?_;first|(refine yR ?_;refine qA (nw:=[1103]) (yJ tok 1103 (xs:=[]) Z Z Z Z Z Z Z Z Z) Z Z Z ?_))|refine SB ?_|(first|refine xT ?_|refine xI ?_|refine vJ Z ?_|refine zZ Z ?_|refine zV Z ?_|refine xQ Z (λhc=>?_) λhc=>?_|refine xD ?_|refine yZ ?_|refine xJ ?_|refine yX ?_)|fail))
  exact zK [1103] Z Z Z Z
def VH (r:Rq) (h1:1<=r.legs.length) (hl:r.legs.length<=1000):zO 209 [yI r] [] (uX r 1103) [(1103,fH r)]:=by
 have c:=MK r.legs h1 hl;have hll:=zA xS r.legs;refine eM call209 λF hF=>?_
 refine zW c ?_;exact zK [1103] Z Z Z Z
def ML (l:List Lg) (h1:1<=l.length) (hl:l.length<=1000):zO 167 [zD xS l] [] (.ref 1104 0 (l.map xS).length) [(1104,.arr 5 (l.map xS) false)]:=by
 have hll:=zA xS l;refine eM call167 λF hF=>?_
 refine yY 0 Z (λcap hx=>?_) ?_
 ·have:l=[]:=by simpa using hx
  subst this;simp at h1
 ·(repeat' (first|refine WV ?_|refine SG (I2 (λhc=>?_) λhc=>?_)|refine SG λhc=>?_|(refine zE ?_;first|(refine yR ?_;refine qA (nw:=[1104]) (yJ tok 1104 (xs:=[]) Z Z Z Z Z Z Z Z Z) Z Z Z ?_))|refine SB ?_|(first|refine xT ?_|refine xI ?_|refine vJ Z ?_|refine zZ Z ?_|refine zV Z ?_|refine xQ Z (λhc=>?_) λhc=>?_|refine xD ?_|refine yZ ?_|refine xJ ?_|refine yX ?_)|fail))
  exact zK [1104] Z Z Z Z
def IX (r:Rq) (h1:1<=r.legs.length) (hl:r.legs.length<=1000):zO 209 [yI r] [] (uX r 1104) [(1104,fH r)]:=by
 have c:=ML r.legs h1 hl;have hll:=zA xS r.legs;refine eM call209 λF hF=>?_
 refine zW c ?_;exact zK [1104] Z Z Z Z
def zQr (a:Rq) (ha:1<=a.legs.length) (ga:a.legs.length<=1000):zO 176 [zD yI [a],.fn 205 []] [] (.ref 1001 0 1) [(1001,.arr 5 [uX a 1101] ⟨false,true⟩),(1101,fH a)]:=by
 have ca:=vD a;have da:=jW a ha ga;refine eM call176 λF hF=>?_
 refine WW ?_;refine xC 5 1001 5 Z Z Z ?_;refine uN 2 [1001,1101] [5,10,1,8,9] Z ?_;refine xA (st0:=⟨[(5,.ref 1001 0 0),(10,iA 0),(1,.fn 205 []),(8,.sl false [yI a]),(9,iA 1)],[(1001,.arr 5 [] ⟨true,false⟩)]⟩) Z ?_
 (have zc1:=ca;have zc2:=da;(repeat' (first|refine bW ?_|((first|apply xE|apply xV)<;>intro hc)|(refine zE ?_;first|(refine yR ?_;refine dE (xs:=[_]) 1002 tok Z Z Z Z Z Z Z Z Z Z Z Z ?_)|(refine yM ?_;first|refine uV tok Z Z Z Z Z Z Z (by intro y hy;cases hy;rfl) Z Z Z zQ Z ?_|refine qU tok Z Z Z Z Z Z Z Z Z Z Z (by intro y hy;cases hy;rfl) zQ Z ?_))|refine SB ?_|fail))<;>clear zc1 zc2)
 refine xA (st0:=⟨[(5,.ref 1001 0 1),(10,iA 1),(1,.fn 205 []),(8,.sl false [yI a]),(9,iA 1)],[(1001,.arr 5 [uX a 1101] ⟨false,true⟩),(1101,fH a)]⟩) Z ?_;refine WW ?_;exact zK [1001,1101] Z Z Z Z
def CD (a:Rq) (ha:1<=a.legs.length) (ga:a.legs.length<=1000):zO 171 [zD yI [a]] [] (.ref 1001 0 1) [(1001,.arr 5 [uX a 1101] ⟨false,true⟩),(1101,fH a)]:=by
 have c:=zQr a ha ga;refine eM call171 λF hF=>?_
 refine zW c ?_;exact zK [1001,1101] Z Z Z Z
def zQs (a b:Rq) (ha:1<=a.legs.length) (ga:a.legs.length<=1000) (hb:1<=b.legs.length) (gb:b.legs.length<=1000):zO 176 [zD yI [a,b],.fn 205 []] [] (.ref 1001 0 2) [(1001,.arr 5 [uX a 1101,uX b 1102] ⟨true,true⟩),(1101,fH a),(1102,fH b)]:=by
 have ca:=vD a;have da:=jW a ha ga;have cb:=vD b;have db:=cZ b hb gb;refine eM call176 λF hF=>?_
 refine WW ?_;refine xC 5 1001 5 Z Z Z ?_;refine uN 3 [1001,1101,1102] [5,10,1,8,9] Z ?_;refine xA (st0:=⟨[(5,.ref 1001 0 0),(10,iA 0),(1,.fn 205 []),(8,.sl false [yI a,yI b]),(9,iA 2)],[(1001,.arr 5 [] ⟨true,false⟩)]⟩) Z ?_
 (have zc1:=ca;have zc2:=da;(repeat' (first|refine bW ?_|((first|apply xE|apply xV)<;>intro hc)|(refine zE ?_;first|(refine yR ?_;refine dE (xs:=[_]) 1002 tok Z Z Z Z Z Z Z Z Z Z Z Z ?_)|(refine yM ?_;first|refine uV tok Z Z Z Z Z Z Z (by intro y hy;cases hy;rfl) Z Z Z zQ Z ?_|refine qU tok Z Z Z Z Z Z Z Z Z Z Z (by intro y hy;cases hy;rfl) zQ Z ?_))|refine SB ?_|fail))<;>clear zc1 zc2)
 refine xA (st0:=⟨[(5,.ref 1001 0 1),(10,iA 1),(1,.fn 205 []),(8,.sl false [yI a,yI b]),(9,iA 2)],[(1001,.arr 5 [uX a 1101] ⟨false,true⟩),(1101,fH a)]⟩) Z ?_
 (have zc1:=cb;have zc2:=db;(repeat' (first|refine bW ?_|((first|apply xE|apply xV)<;>intro hc)|(refine zE ?_;first|(refine yR ?_;refine dE (xs:=[_]) 1002 tok Z Z Z Z Z Z Z Z Z Z Z Z ?_)|(refine yM ?_;first|refine uV tok Z Z Z Z Z Z Z (by intro y hy;cases hy;rfl) Z Z Z zQ Z ?_|refine qU tok Z Z Z Z Z Z Z Z Z Z Z (by intro y hy;cases hy;rfl) zQ Z ?_))|refine SB ?_|fail))<;>clear zc1 zc2)
 refine xA (st0:=⟨[(5,.ref 1001 0 2),(10,iA 2),(1,.fn 205 []),(8,.sl false [yI a,yI b]),(9,iA 2)],[(1001,.arr 5 [uX a 1101,uX b 1102] ⟨true,true⟩),(1101,fH a),(1102,fH b)]⟩) Z ?_;refine WW ?_;exact zK [1001,1101,1102] Z Z Z Z
def CE (a b:Rq) (ha:1<=a.legs.length) (ga:a.legs.length<=1000) (hb:1<=b.legs.length) (gb:b.legs.length<=1000):zO 171 [zD yI [a,b]] [] (.ref 1001 0 2) [(1001,.arr 5 [uX a 1101,uX b 1102] ⟨true,true⟩),(1101,fH a),(1102,fH b)]:=by
 have c:=zQs a b ha ga hb gb;refine eM call171 λF hF=>?_
 refine zW c ?_;exact zK [1001,1101,1102] Z Z Z Z
def zQt (a b c:Rq) (ha:1<=a.legs.length) (ga:a.legs.length<=1000) (hb:1<=b.legs.length) (gb:b.legs.length<=1000) (hc:1<=c.legs.length) (gc:c.legs.length<=1000):zO 176 [zD yI [a,b,c],.fn 205 []] [] (.ref 1001 0 3) [(1001,.arr 5 [uX a 1101,uX b 1102,uX c 1103] ⟨true,true⟩),(1101,fH a),(1102,fH b),(1103,fH c)]:=by
 have ca:=vD a;have da:=jW a ha ga;have cb:=vD b;have db:=cZ b hb gb;have cc:=vD c;have dc:=VH c hc gc;refine eM call176 λF hF=>?_
 refine WW ?_;refine xC 5 1001 5 Z Z Z ?_;refine uN 4 [1001,1101,1102,1103] [5,10,1,8,9] Z ?_;refine xA (st0:=⟨[(5,.ref 1001 0 0),(10,iA 0),(1,.fn 205 []),(8,.sl false [yI a,yI b,yI c]),(9,iA 3)],[(1001,.arr 5 [] ⟨true,false⟩)]⟩) Z ?_
 (have zc1:=ca;have zc2:=da;(repeat' (first|refine bW ?_|((first|apply xE|apply xV)<;>intro hc)|(refine zE ?_;first|(refine yR ?_;refine dE (xs:=[_]) 1002 tok Z Z Z Z Z Z Z Z Z Z Z Z ?_)|(refine yM ?_;first|refine uV tok Z Z Z Z Z Z Z (by intro y hy;cases hy;rfl) Z Z Z zQ Z ?_|refine qU tok Z Z Z Z Z Z Z Z Z Z Z (by intro y hy;cases hy;rfl) zQ Z ?_))|refine SB ?_|fail))<;>clear zc1 zc2)
 refine xA (st0:=⟨[(5,.ref 1001 0 1),(10,iA 1),(1,.fn 205 []),(8,.sl false [yI a,yI b,yI c]),(9,iA 3)],[(1001,.arr 5 [uX a 1101] ⟨false,true⟩),(1101,fH a)]⟩) Z ?_
 (have zc1:=cb;have zc2:=db;(repeat' (first|refine bW ?_|((first|apply xE|apply xV)<;>intro hc)|(refine zE ?_;first|(refine yR ?_;refine dE (xs:=[_]) 1002 tok Z Z Z Z Z Z Z Z Z Z Z Z ?_)|(refine yM ?_;first|refine uV tok Z Z Z Z Z Z Z (by intro y hy;cases hy;rfl) Z Z Z zQ Z ?_|refine qU tok Z Z Z Z Z Z Z Z Z Z Z (by intro y hy;cases hy;rfl) zQ Z ?_))|refine SB ?_|fail))<;>clear zc1 zc2)
 refine xA (st0:=⟨[(5,.ref 1001 0 2),(10,iA 2),(1,.fn 205 []),(8,.sl false [yI a,yI b,yI c]),(9,iA 3)],[(1001,.arr 5 [uX a 1101,uX b 1102] ⟨true,true⟩),(1101,fH a),(1102,fH b)]⟩) Z ?_
 (have zc1:=cc;have zc2:=dc;(repeat' (first|refine bW ?_|((first|apply xE|apply xV)<;>intro hc)|(refine zE ?_;first|(refine yR ?_;refine dE (xs:=[_]) 1002 tok Z Z Z Z Z Z Z Z Z Z Z Z ?_)|(refine yM ?_;first|refine uV tok Z Z Z Z Z Z Z (by intro y hy;cases hy;rfl) Z Z Z zQ Z ?_|refine qU tok Z Z Z Z Z Z Z Z Z Z Z (by intro y hy;cases hy;rfl) zQ Z ?_))|refine SB ?_|fail))<;>clear zc1 zc2)
 refine xA (st0:=⟨[(5,.ref 1001 0 3),(10,iA 3),(1,.fn 205 []),(8,.sl false [yI a,yI b,yI c]),(9,iA 3)],[(1001,.arr 5 [uX a 1101,uX b 1102,uX c 1103] ⟨true,true⟩),(1101,fH a),(1102,fH b),(1103,fH c)]⟩) Z ?_;refine WW ?_;exact zK [1001,1101,1102,1103] Z Z Z Z
def CF (a b c:Rq) (ha:1<=a.legs.length) (ga:a.legs.length<=1000) (hb:1<=b.legs.length) (gb:b.legs.length<=1000) (hc:1<=c.legs.length) (gc:c.legs.length<=1000):zO 171 [zD yI [a,b,c]] [] (.ref 1001 0 3) [(1001,.arr 5 [uX a 1101,uX b 1102,uX c 1103] ⟨true,true⟩),(1101,fH a),(1102,fH b),(1103,fH c)]:=by
 have c:=zQt a b c ha ga hb gb hc gc;refine eM call171 λF hF=>?_
 refine zW c ?_;exact zK [1001,1101,1102,1103] Z Z Z Z
theorem zQu (a b c d:Rq) (ha:1<=a.legs.length) (ga:a.legs.length<=1000) (hb:1<=b.legs.length) (gb:b.legs.length<=1000) (hc:1<=c.legs.length) (gc:c.legs.length<=1000) (hd:1<=d.legs.length) (gd:d.legs.length<=1000):zO 176 [zD yI [a,b,c,d],.fn 205 []] [] (.ref 1001 0 4) [(1001,.arr 5 [uX a 1101,uX b 1102,uX c 1103,uX d 1104] ⟨true,true⟩),(1101,fH a),(1102,fH b),(1103,fH c),(1104,fH d)]:=by
 have ca:=vD a;have da:=jW a ha ga;have cb:=vD b;have db:=cZ b hb gb;have cc:=vD c;have dc:=VH c hc gc;have cd:=vD d;have dd:=IX d hd gd;refine eM call176 λF hF=>?_
 refine WW ?_;refine xC 5 1001 5 Z Z Z ?_;refine uN 5 [1001,1101,1102,1103,1104] [5,10,1,8,9] Z ?_;refine xA (st0:=⟨[(5,.ref 1001 0 0),(10,iA 0),(1,.fn 205 []),(8,.sl false [yI a,yI b,yI c,yI d]),(9,iA 4)],[(1001,.arr 5 [] ⟨true,false⟩)]⟩) Z ?_
 (have zc1:=ca;have zc2:=da;(repeat' (first|refine bW ?_|((first|apply xE|apply xV)<;>intro hc)|(refine zE ?_;first|(refine yR ?_;refine dE (xs:=[_]) 1002 tok Z Z Z Z Z Z Z Z Z Z Z Z ?_)|(refine yM ?_;first|refine uV tok Z Z Z Z Z Z Z (by intro y hy;cases hy;rfl) Z Z Z zQ Z ?_|refine qU tok Z Z Z Z Z Z Z Z Z Z Z (by intro y hy;cases hy;rfl) zQ Z ?_))|refine SB ?_|fail))<;>clear zc1 zc2)
 refine xA (st0:=⟨[(5,.ref 1001 0 1),(10,iA 1),(1,.fn 205 []),(8,.sl false [yI a,yI b,yI c,yI d]),(9,iA 4)],[(1001,.arr 5 [uX a 1101] ⟨false,true⟩),(1101,fH a)]⟩) Z ?_
 (have zc1:=cb;have zc2:=db;(repeat' (first|refine bW ?_|((first|apply xE|apply xV)<;>intro hc)|(refine zE ?_;first|(refine yR ?_;refine dE (xs:=[_]) 1002 tok Z Z Z Z Z Z Z Z Z Z Z Z ?_)|(refine yM ?_;first|refine uV tok Z Z Z Z Z Z Z (by intro y hy;cases hy;rfl) Z Z Z zQ Z ?_|refine qU tok Z Z Z Z Z Z Z Z Z Z Z (by intro y hy;cases hy;rfl) zQ Z ?_))|refine SB ?_|fail))<;>clear zc1 zc2)
 refine xA (st0:=⟨[(5,.ref 1001 0 2),(10,iA 2),(1,.fn 205 []),(8,.sl false [yI a,yI b,yI c,yI d]),(9,iA 4)],[(1001,.arr 5 [uX a 1101,uX b 1102] ⟨true,true⟩),(1101,fH a),(1102,fH b)]⟩) Z ?_
 (have zc1:=cc;have zc2:=dc;(repeat' (first|refine bW ?_|((first|apply xE|apply xV)<;>intro hc)|(refine zE ?_;first|(refine yR ?_;refine dE (xs:=[_]) 1002 tok Z Z Z Z Z Z Z Z Z Z Z Z ?_)|(refine yM ?_;first|refine uV tok Z Z Z Z Z Z Z (by intro y hy;cases hy;rfl) Z Z Z zQ Z ?_|refine qU tok Z Z Z Z Z Z Z Z Z Z Z (by intro y hy;cases hy;rfl) zQ Z ?_))|refine SB ?_|fail))<;>clear zc1 zc2)
 refine xA (st0:=⟨[(5,.ref 1001 0 3),(10,iA 3),(1,.fn 205 []),(8,.sl false [yI a,yI b,yI c,yI d]),(9,iA 4)],[(1001,.arr 5 [uX a 1101,uX b 1102,uX c 1103] ⟨true,true⟩),(1101,fH a),(1102,fH b),(1103,fH c)]⟩) Z ?_
 (have zc1:=cd;have zc2:=dd;(repeat' (first|refine bW ?_|((first|apply xE|apply xV)<;>intro hc)|(refine zE ?_;first|(refine yR ?_;refine dE (xs:=[_]) 1002 tok Z Z Z Z Z Z Z Z Z Z Z Z ?_)|(refine yM ?_;first|refine uV tok Z Z Z Z Z Z Z (by intro y hy;cases hy;rfl) Z Z Z zQ Z ?_|refine qU tok Z Z Z Z Z Z Z Z Z Z Z (by intro y hy;cases hy;rfl) zQ Z ?_))|refine SB ?_|fail))<;>clear zc1 zc2)
 refine xA (st0:=⟨[(5,.ref 1001 0 4),(10,iA 4),(1,.fn 205 []),(8,.sl false [yI a,yI b,yI c,yI d]),(9,iA 4)],[(1001,.arr 5 [uX a 1101,uX b 1102,uX c 1103,uX d 1104] ⟨true,true⟩),(1101,fH a),(1102,fH b),(1103,fH c),(1104,fH d)]⟩) Z ?_;refine WW ?_;exact zK [1001,1101,1102,1103,1104] Z Z Z Z
def CG (a b c d:Rq) (ha:1<=a.legs.length) (ga:a.legs.length<=1000) (hb:1<=b.legs.length) (gb:b.legs.length<=1000) (hc:1<=c.legs.length) (gc:c.legs.length<=1000) (hd:1<=d.legs.length) (gd:d.legs.length<=1000):zO 171 [zD yI [a,b,c,d]] [] (.ref 1001 0 4) [(1001,.arr 5 [uX a 1101,uX b 1102,uX c 1103,uX d 1104] ⟨true,true⟩),(1101,fH a),(1102,fH b),(1103,fH c),(1104,fH d)]:=by
 have c:=zQu a b c d ha ga hb gb hc gc hd gd;refine eM call171 λF hF=>?_
 refine zW c ?_;exact zK [1001,1101,1102,1103,1104] Z Z Z Z
theorem PX (K:List Nat) (h:yD):∀a b:List AV,uS K h (a++b)=uS K h a++uS K h b
 | [],b=>rfl
 |v::a,b=>by rw[yD0,uS,uS,PX K h a b];rfl
theorem IY (K:List Nat) (h:yD):∀l:List Rq,uS K h (l.map yI)=l.map yI
 | []=>rfl
 |r::l=>by rw[yCh,uS,IY K h l];rfl
theorem TF (K:List Nat) (h:yD):∀a b:List AV,wL K h (a++b)=wL K h a++wL K h b
 | [],b=>rfl
 |v::a,b=>by rw[yD0,wL,wL,TF K h a b];rfl
theorem PY (K:List Nat) (h:yD):∀l:List Rq,wL K h (l.map yI)=l.map yI
 | []=>rfl
 |r::l=>by rw[yCh,wL,PY K h l];rfl
theorem XF:∀a b:List AV,wD (a++b)=(wD a&&wD b)
 | [],b=>rfl
 |v::a,b=>by rw[yD0,wD,wD,XF a b,Bool.and_assoc]
theorem TG:∀l:List Rq,wD (l.map yI)=true
 | []=>rfl
 |r::l=>by rw[yCh,wD,TG l];rfl
def bV (pre:List Rq) (x:Rq) (post:List Rq) (k:Nat):List AV:=pre.map yI++uX x k::post.map yI
def ZO (pre:List Rq) (x:Rq) (post:List Rq) (k:Nat):(bV pre x post k).length=pre.length+1+post.length:=by simp[bV];omega
def VI (h:yD) (pre:List Rq) (x:Rq) (post:List Rq) (b:Bool):qK [1001,1101] h (.arr 5 (bV pre x post 1101) ⟨b,true⟩)= .arr 5 (bV pre x post 1101) ⟨b,true⟩:=by
 have e:uS [1001,1101] h (bV pre x post 1101)=bV pre x post 1101:=by
  unfold bV;rw[PX,IY,uS,IY];rfl
 have e2:wD (bV pre x post 1101)=false:=by
  unfold bV;rw[XF,TG,wD];rfl
 show xM.arr 5 (uS [1001,1101] h (bV pre x post 1101)) ⟨b,!wD (uS [1001,1101] h (bV pre x post 1101))⟩=_
 rw[e,e2];rfl
def zQv (pre:List Rq) (x:Rq) (post:List Rq) (k:Nat) (y:Rq):bV pre x post k++[yI y]=bV pre x (post++[y]) k:=by
 unfold bV;rw[yBn,yCa];rfl
theorem zQw (pre:List Rq) (x:Rq) (post:List Rq) (l:List Rq) (hL:l=pre++x::post) (hn:l.length<=1000) (hb:∀r∈l,1<=r.legs.length/\r.legs.length<=1000):
  zO 176 [zD yI l,.fn 205 []] [] (.ref 1001 0 (bV pre x post 1101).length) [(1001,.arr 5 (bV pre x post 1101) ⟨true,true⟩),(1101,fH x)]:=by
 have hl:=zA yI l;have hlen:l.length=pre.length+1+post.length:=by rw[hL];simp;omega
 refine eM call176 λF hF=>?_
 refine WW ?_;refine xC 5 1001 5 rfl rfl rfl ?_;refine wW (λn st=>∃i,n+i=l.length/\st=if i<=pre.length then(⟨[(5,.ref 1001 0 ((l.take i).map yI).length),(10,iA i),(1,.fn 205 []),(8,zD yI l),(9,iA (l.map yI).length)],[(1001,.arr 5 ((l.take i).map yI) true)]⟩:St)else⟨[(5,.ref 1001 0 (bV pre x (post.take (i-pre.length-1)) 1101).length),(10,iA i),(1,.fn 205 []),(8,zD yI l),(9,iA (l.map yI).length)],[(1001,.arr 5 (bV pre x (post.take (i-pre.length-1)) 1101) ⟨true,true⟩),(1101,fH x)]⟩) l.length [1001,1101] [5,10,1,8,9] rfl ⟨0,zB,by rw[yBd (yBt _)];rfl⟩ ?_;rintro n st ⟨i,hi,rfl⟩;by_cases hip:i<pre.length
 ·rw[yBd zB];have hy:=zM yI l i zB;have hm:l.getD i default∈l:=by simp[List.getD,show i<l.length by omega]
  have hs:=hb _ hm
  have e:(l.take (i+1)).map yI=(l.take i).map yI++[yI (l.getD i default)]:=by
   rw[yD8,yBn,yBu zB];simp[List.getD,show i<l.length by omega]
  have hpl:((l.take i).map yI).length=i:=by rw[yBe,yB4];omega
  have hil:i<l.length:=by omega
  clear hm;generalize l.getD i default=r at *;have c1:=vD r;have c2:=VL r zB
  (have zc1:=c1;have zc2:=c2;(repeat' (first|refine uC ?_|((first|apply xE|apply xV)<;>intro hc)|(refine zE ?_;first|(refine yM ?_;refine qA (nw:=[]) (vW true false tok Z Z Z Z Z Z (λh=>by cases h) Z (by intro y hy;cases hy;rfl) Z Z Z Z (by simp only[ZO,yBe,yB4,yBp,yCr,yCj];omega) (λh=>by cases h)) Z Z Z ?_)|refine SM ?_)|fail))<;>clear zc1 zc2)
  exact⟨n-1,zB,i+1,zB,by rw[yBd zB,e];rfl⟩
 by_cases hie:i=pre.length
 ·rw[yBd zB];subst hie;have hil:pre.length<l.length:=by omega
  have ht:(l.take pre.length).map yI=pre.map yI:=by rw[hL];simp
  have hy:(l.map yI)[pre.length]? =some (yI x):=by rw[hL];simp
  have hs:=hb x (by rw[hL];simp);rw[ht];clear hL;have c1:=vD x;have c2:=jW x zB zB;have hpt:pre.length<=1000:=by omega
  (have zc1:=c1;have zc2:=c2;(repeat' (first|refine bW ?_|((first|apply xE|apply xV)<;>intro hc)|(refine zE ?_;first|(refine yR ?_;refine dE (xs:=[_]) 1002 tok Z Z Z Z Z Z Z Z Z Z Z Z ?_)|(refine yM ?_;refine qA (nw:=[]) (vW true true tok Z Z Z Z Z Z (λh=>by cases h) Z (by intro y hy;cases hy;rfl) Z Z Z Z (by simp only[ZO,yBe,yB4,yBp,yCr,yCj];omega) (λh=>by cases h)) Z Z Z ?_))|refine SB ?_|fail))<;>clear zc1 zc2)
  refine⟨n-1,zB,pre.length+1,zB,?_⟩;rw[yBc zB,show pre.length+1-pre.length-1=0 by omega];refine yB8 (St.mk _) ?_
  show [(1001,qK [1001,1101] _ (.arr 5 (bV pre x [] 1101) ⟨true,true⟩)),(1101,fH x)]=_
  rw[VI];rfl
 rw[yBc zB];by_cases hil:i<l.length
 ·have hy:=zM yI l i hil;have hm:l.getD i default∈l:=by simp[List.getD,hil]
  have hs:=hb _ hm
  have hg:post[i-pre.length-1]? =some (l.getD i default):=by
   have h1:l[i]? =some (l.getD i default):=by simp[List.getD,hil]
   rw[hL,yB9 zB]at h1;rw[show i-pre.length=(i-pre.length-1)+1 by omega,List.getElem?_cons_succ]at h1;rw[<-hL]at h1;exact h1
  have e:bV pre x (post.take (i+1-pre.length-1)) 1101=bV pre x (post.take (i-pre.length-1)) 1101++[yI (l.getD i default)]:=by
   rw[zQv,show i+1-pre.length-1=(i-pre.length-1)+1 by omega,yD8,hg];rfl
  have hcl:=ZO pre x (post.take (i-pre.length-1)) 1101;have hpt:(post.take (i-pre.length-1)).length<=1000:=by rw[yB4];omega
  have hf:=λh=>VI h pre x (post.take (i+1-pre.length-1)) true
  rw[e]at hf;clear hm hg hL;generalize l.getD i default=r at *;generalize bV pre x (post.take (i-pre.length-1)) 1101=cs at *;have c1:=vD r;have c2:=VL r zB
  (have zc1:=c1;have zc2:=c2;(repeat' (first|refine uC ?_|((first|apply xE|apply xV)<;>intro hc)|(refine zE ?_;first|(refine yM ?_;refine qA (nw:=[]) (vW true true tok Z Z Z Z Z Z (λh=>by cases h) Z (by intro y hy;cases hy;rfl) Z Z Z Z (by simp only[ZO,yBe,yB4,yBp,yCr,yCj];omega) (λh=>by cases h)) Z Z Z ?_)|refine SM ?_)|fail))<;>clear zc1 zc2)
  refine⟨n-1,zB,i+1,zB,?_⟩;rw[yBc zB,e];refine yB8 (St.mk _) ?_
  show [(1001,qK [1001,1101] _ (.arr 5 (cs++[yI r]) ⟨true,true⟩)),(1101,fH x)]=_
  rw[hf]
 ·have hf:=λh=>VI h pre x post true
  rw[show i-pre.length-1=post.length by omega,yBj];generalize bV pre x post 1101=cs at *;refine WW ?_;refine zK [1001,1101] Z Z Z ?_
  show [(1001,qK [1001,1101] _ (.arr 5 cs ⟨true,true⟩)),(1101,fH x)]=_
  rw[hf]
def CH (pre:List Rq) (x:Rq) (post:List Rq) (l:List Rq) (hL:l=pre++x::post) (hn:l.length<=1000) (hb:∀r∈l,1<=r.legs.length/\r.legs.length<=1000):
  zO 171 [zD yI l] [] (.ref 1001 0 (bV pre x post 1101).length) [(1001,.arr 5 (bV pre x post 1101) ⟨true,true⟩),(1101,fH x)]:=by
 have c:=zQw pre x post l hL hn hb;have hf:=λh=>VI h pre x post true
 generalize bV pre x post 1101=cs at *;refine eM call171 λF hF=>?_
 refine zW c ?_;refine zK [1001,1101] Z Z Z ?_
 show [(1001,qK [1001,1101] _ (.arr 5 cs ⟨true,true⟩)),(1101,fH x)]=_
 rw[hf]
end Av
end Go.Proofs.YteajjdidebfcjaaGreat
