/- Part 13. -/
import Derived.Test.YteajjdidebfcjaaGreatR12
namespace Go.Proofs.YteajjdidebfcjaaGreat
namespace Av
open Tryz
set_option linter.all false
set_option maxRecDepth 4000
set_option maxHeartbeats 2000000
def YS {α:Type} (p:α->Bool) (l:List α):Int:=if l.any p=true then(l.findIdx p:Int)else -1
def WF {α:Type} {p:α->Bool} {l pre post:List α} {x:α} (h:l=pre++x::post) (hn:∀y∈pre,p y=false) (hx:p x=true):YS p l=(pre.length:Int):=by
 subst h;have h1:(pre++x::post).any p=true:=by simp[hx]
 have h2:pre.findIdx p=pre.length:=List.findIdx_eq_length.2 (λy hy=>by simpa using hn y hy);unfold YS;rw[zZ8 h1,List.findIdx_append,h2,zZ7 zB,List.findIdx_cons,hx];simp
def aD {α:Type} {p:α->Bool} {l:List α} (hn:∀y∈l,p y=false):YS p l= -1:=by
 unfold YS;rw[zZ7 OA]
def II {α:Type} {p:α->Bool} {l:List α} (h:l.any p=true):0<=YS p l/\YS p l<l.length:=by
 unfold YS;rw[zZ8 h];have:=List.findIdx_lt_length.2 (yBo.1 h);omega
def zVk (id:Int) (x:Rq):zN 277 [yG x,.ptr 3 0 0] [(3,.box [iA id])] (bA (x.id==id)) [(3,.box [iA id])]:=by
 refine eM call277 λF hF=>?_
 refine WW ?_;exact zL [3] Z Z Z Z
def zVl (id:Int) (l:List Rq) (hb:l.length<=1000):zN 276 [zD yG l,.fn 277 [.ptr 3 0 0]] [(3,.box [iA id])] (iA (YS (λr:Rq=>r.id==id) l)) [(3,.box [iA id])]:=by
 have hl:=zA yG l;refine eM call276 λF hF=>?_
 refine WW ?_;refine qW (l) [3] [3] [0,1,7] [8,0,1,7] Z (λi pre T U zs=>(∀y∈pre,(y.id==id)=false)/\zs=⟨(8,iA i)::T,U⟩) ?_;(conv=>whnf);refine⟨?_,?_,?_⟩
 ·exact⟨by simp,rfl⟩
 ·rintro i pre x post st hx hi ⟨hp,rfl⟩;have hy:=xI yG hx hi;have hlt:=yN hx hi;have c:=zVk id x;have hit:=WF (p:=λr:Rq=>r.id==id) hx hp
  cases he:(x.id==id)<;>rw[he]at c
  ·clear hx hit;refine zV c ?_;exact⟨λy hy=>by simp only[yAw,yA8]at hy;rcases hy with hy|rfl;exact hp y hy;exact he,rfl⟩
  ·rw[hit he,hi];clear hx hit;refine zV c ?_;exact zL [3] Z Z Z Z
 ·rintro st ⟨hp,rfl⟩;rw[aD hp];refine WW ?_;exact zL [3] rfl rfl rfl rfl
def PI (l:List Rq) (id:Int) (hb:l.length<=1000):zN 248 [zD yG l,iA id] [] (iA (YS (λr:Rq=>r.id==id) l)) []:=by
 have c:=zVl id l hb;generalize YS (λr:Rq=>r.id==id) l=n at *;refine eM call248 λF hF=>?_
 refine zV c ?_;exact zJ
def zVm (now:Int) (x:Rq):zN 177 [yG x,.ptr 3 0 0] [(3,.box [iA now])] (bA (decide (now<=x.til))) [(3,.box [iA now])]:=by
 cases hb:decide (now<=x.til)with
 |false=>
  rw[yAr]at hb;refine eM call177 λF hF=>?_
  refine WW ?_;exact zL [3] Z Z Z Z
 |true=>
  rw[yAc]at hb;refine eM call177 λF hF=>?_
  refine WW ?_;exact zL [3] Z Z Z Z
def zVn (v:Int) (x:Rq):zN 242 [yG x,.ptr 3 0 0] [(3,.box [iA v])] (bA (x.vh != v)) [(3,.box [iA v])]:=by
 refine eM call242 λF hF=>?_
 refine WW ?_;exact zL [3] Z Z Z Z
def zVo (v:Int) (x:Rq):zN 249 [yG x,.ptr 3 0 0] [(3,.box [iA v])] (bA (x.id != v)) [(3,.box [iA v])]:=by
 refine eM call249 λF hF=>?_
 refine WW ?_;exact zL [3] Z Z Z Z
def zKy (l:List Rq) (now:Int):List Rq:=l.filter λx=>decide (now<=x.til)
def EX (l:List Rq) (v:Int):List Rq:=l.filter λx=>x.vh != v
def zKz (l:List Rq) (id:Int):List Rq:=l.filter λx=>x.id != id
def jQ (l:List Rq) (id:Int):Bool:=l.any λx=>x.id==id
def zK0 (l:List Rq) (now:Int) (hv:bJ l):zN 131 [zD yG l,iA now] [] (zD yG (zKy l now)) []:=by
 have h4:=hv.n4;have c:=zAt 177 now _ l zB (λr hr=>by have:=hv.lg3 hr;omega) (zVm now);unfold zKy;generalize l.filter _=l2 at *;refine eM call131 λF hF=>?_
 refine zV c ?_;exact zJ
def LF (l:List Rq) (v:Int) (hv:bJ l):zN 221 [zD yG l,iA v] [] (zD yG (EX l v)) []:=by
 have h4:=hv.n4;have c:=zAt 242 v _ l zB (λr hr=>by have:=hv.lg3 hr;omega) (zVn v);unfold EX;generalize l.filter _=l2 at *;refine eM call221 λF hF=>?_
 refine zV c ?_;exact zJ
def zK1 (l:List Rq) (id:Int) (hv:bJ l):zN 224 [zD yG l,iA id] [] (.tup [zD yG (if jQ l id=true then zKz l id else []),iA (if jQ l id=true then 0 else 12)]) []:=by
 have h4:=hv.n4;have c1:=WN l 4 hv zB;have c2:=PI l id zB;have c3:=zAt 249 id _ l zB (λr hr=>by have:=hv.lg3 hr;omega) (zVo id);unfold zKz;generalize l.filter _=l2 at*
 cases hh:jQ l id with
 |true=>
  have hx:=II (p:=λx:Rq=>x.id==id) (l:=l) hh;generalize YS (λx:Rq=>x.id==id) l=n at *;rw[zZ8 Z,zZ8 Z];refine eM call224 λF hF=>?_
  refine yR (gK c1 c2 c3) ?_;exact zJ
 |false=>
  have hx:=aD (p:=λx:Rq=>x.id==id) (l:=l) (by simpa [jQ]using hh);rw[hx]at c2;rw[zZ7 yAs,zZ7 yAs];refine eM call224 λF hF=>?_
  refine yR (vH c1 c2) ?_;exact zJ
def zEx (l:List Rq) (id:Int) (hv:bJ l):yP [zD yG l,iA id] [] (.tup [zD yG (if jQ l id=true then zKz l id else []),iA (if jQ l id=true then 0 else 12)]) []:=yD
section
variable {P:Program} {K0:List Nat} {F:Fr K0} {m:Nat}
def zPs (n:Nat) {Q:Exit->St->Prop} {id:Nat} {l:List Oper} {st:St} (hm:P.follows .mixedOrders=true)
  (hk:zX P F m l.toArray true (l.take n) st [] (λfs s=>XA l n (MA l) fs.reverse=true/\zX P F m l.toArray false (l.drop n) s [] (λ_ s=>Q .normal s))):vK P F m (.region id l.toArray true) st Q:=by
 obtain⟨es,st2,h1,h2,h3⟩:=hk.run;exact LI n hm h1 OC h3.run
def zVp {l:List Oper} {n:Nat} {ops:Array Oper} {st:St} {fs:List FP} {Q':St->Prop} (hc:XA l n (MA l) fs.reverse=true) (hq:Q' st):zX P F m ops true [] st fs (λfs s=>XA l n (MA l) fs.reverse=true/\Q' s):=⟨⟨[],st,rfl,hc,hq⟩⟩
end
section
variable {P:Program} {TT:List TI} {st:St}
def EY (hP:uI P TT) {T e:Nat} {x l:Operand} {ti te:TI} {k:IntKind} (hx:yJ (zG st.tm) x= .s (.slice none 0 0)) (hl:yJ (zG st.tm) l= .s (.int k 0)) (hT:TT[T]? =some ti) (hd:ti.d= .slice e) (he:TT[e]? =some te):
  wM P st (.slice T x (some l) none none) (.s (.slice none 0 0)) [] [] []:=
 yK λoo X tm h w β a ho hg hr HH Ht=>by
  obtain⟨dst,op',type,pos,after,guard⟩:=oo;dsimp only at ho;subst ho;have hc:=vF Ht hg (x:=x) vY hx;obtain⟨u,hu,hd'⟩:=xW (hP _ _ hT) w;obtain rfl:=vN (hd'.trans hd);have hs:=uQ (hP _ _ he) w;have hb:=hG (P:=P) Ht hg (lo:=some l) (hi:=none) (len:=0) (cap:=0) (l:=0) (r:=0) (λy hy=>by cases hy;simp[Op.operands]) (λy hy=>by cases hy) ⟨k,0,hl,zB⟩ rfl (yAb _) (yAb _) true;rw[yC6]at hb;exact⟨_,by simp only[execOp,Instr.sliceAt,Instr.slice,Sem.run_bind,hu,Result.andThen_ok,hc,yC6,hb,hs,Sem.run_pure];rfl,.fz _ _ (.s _)⟩
end
section
variable {P:Program} {TT:List TI} {K0:List Nat} {F:Fr K0} {m:Nat} {ops:Array Oper} {rest:List Oper} {Q:List FP->St->Prop} {tm:List (Nat×AV)} {h:List (Nat×xN)} {dr:Bool} {fs:List FP}
variable {ty:Nat} {pos:String} {after:Array Edge} {t:Nat}
def zAo (hP:uI P TT) {T e key off len sz:Nat} {d x:Operand} {ti te:TI} {xs yl ys zs:List AV} {xv:AV} (hdv:yJ (zG tm) d= .ref key off len) (hk:zC h key=some (.arr sz xs false)) (hx:yJ (zG tm) x=xv) (hT:TT[T]? =some ti) (hd:ti.d= .slice e) (he:TT[e]? =some te)
  (hyl:els (zC h) xv=some yl) (hyt:yl.take len=ys) (hsz:∀y,ys[0]? =some y->y.cells.length=sz) (hp1:1<=ys.length) (hss:Nat.beq sz te.size=true) (hz:xs.take off++ys++xs.drop (off+ys.length)=zs) (hm:Nat.blt t m=true)
  (hr:zX P F m ops dr rest ⟨(t,.s (.int .i64 ys.length))::tm,(key,.arr sz zs false)::h⟩ (⟨true,[key],key::PY xv⟩::fs) Q):zX P F m ops dr (⟨some t,.call ⟨.builtin .copy, #[d,x], #[T,T]⟩,ty,pos,after,none⟩::rest) ⟨tm,h⟩ fs Q:=by
 subst hz;exact uS (nw:=[]) (LX hP hdv hk hx hT hd he hyl hyt hsz (.inl hp1) hss) hm Z Z hr
def zVq (hP:uI P TT) {T e:Nat} {x:Operand} {ti:TI} {k len sz:Nat} {xs:List AV} (hx:yJ (zG tm) x= .ref k 0 len) (hk:zC h k=some (.arr sz xs ⟨false,false⟩)) (hT:TT[T]? =some ti) (hd:ti.d= .slice e) (hl:1<=len) (hm:Nat.blt t m=true)
  (hr:∀c:Int,(xs.length:Int)<=c->zX P F m ops false rest ⟨(t,.s (.int .i64 c))::tm,h⟩ fs Q):zX P F m ops false (⟨some t,.call ⟨.builtin .cap, #[x], #[T]⟩,ty,pos,after,none⟩::rest) ⟨tm,h⟩ fs Q:=
 x_m (zBb hP hx hk hT hd hl) hm Z (λv d ⟨c,_,_,e⟩=>by subst e;rfl) (λv d ⟨c,e1,e2,e3⟩=>by subst e1 e3;exact hr c e2)
def zPt (hP:uI P TT) {T e k len sz:Nat} {s x:Operand} {ti te:TI} {xs vs zs:List AV} {xv:AV} (hs:yJ (zG tm) s= .ref k 0 len) (hk:zC h k=some (.arr sz xs ⟨false,false⟩)) (hx:yJ (zG tm) x=xv) (hT:TT[T]? =some ti) (hd:ti.d= .slice e) (he:TT[e]? =some te) (hvs:els (zC h) xv=some vs)
  (hss:Nat.beq sz te.size=true) (hsz:∀y,vs[0]? =some y->y.cells.length=sz) (hpos:1<=vs.length) (hl:1<=len) (hroom:len+vs.length<=xs.length) (hmax:xs.length<=1073741824) (hz:xs.take len++vs++xs.drop (len+vs.length)=zs) (hm:Nat.blt t m=true)
  (hr:zX P F m ops dr rest ⟨(t,.ref k 0 (len+vs.length))::tm,(k,.arr sz zs ⟨false,false⟩)::h⟩ (⟨true,[k],k::PY xv⟩::fs) Q):zX P F m ops dr (⟨some t,.call ⟨.builtin .append, #[s,x], #[T,T]⟩,ty,pos,after,none⟩::rest) ⟨tm,h⟩ fs Q:=by
 subst hz;exact uS (nw:=[]) (zFi hP hs hk hx hT hd he hvs hss hsz hpos hl hroom hmax) hm Z Z hr
def zVr (hP:uI P TT) {T I e c n N:Nat} {s x:Operand} {ti te tn:TI} {k0:IntKind} {nx:Int} {ys zs:List AV} {z:AV} (hs:yJ (zG tm) s= .slc c ys) (hx:yJ (zG tm) x= .s (.int .i64 nx)) (hT:TT[T]? =some ti) (hd:ti.d= .slice e) (he:TT[e]? =some te) (hI:TT[I]? =some tn) (hdn:tn.d= .int k0)
  (hb:Nat.ble te.bytes 65536=true) (hp:Nat.ble 1 te.size=true) (hzl:Nat.beq te.zero.length te.size=true) (hz1:te.zero.all (·.oneCell')=true) (hzc:Nat.beq (vU te).cells.length te.size=true) (hzc2:(vU te).cells=te.zero.map .s) (hz:vU te=z)
  (hnx:nx=(n:Int)) (hpos:1<=n) (hmax:ys.length+n<=1073741824) (hc:c<ys.length+n) (hw0:∀(i:Nat) (y:AV),ys[i]? =some y->y.cells.length=te.size) (hA:ys++List.replicate n z=zs) (hN:zs.length=N) (hm:Nat.blt t m=true) (hnn:(zC h t).isNone=true)
  {sz:Nat} (hse:te.size=sz) (hk:zX P F m ops dr rest ⟨(t,.ref t 0 N)::tm,(t,.arr sz zs false)::h⟩ (⟨true,[t,t],[]⟩::fs) Q):zX P F m ops dr (⟨some t,.call ⟨.builtin .append, #[s,x], #[T,I]⟩,ty,pos,after,none⟩::rest) ⟨tm,h⟩ fs Q:=by
 subst hse hz hN hA;exact uS (nw:=[t]) (zMk hP t hs hx hT hd he hI hdn hb hp hzl hz1 hzc hzc2 hnx hpos hmax hc hw0) hm (zAu hnn) Z hk
end
theorem zK2 (xs:List AV) (v:AV) (i:Nat) (hv:v.cells.length=5) (hx:∀y∈xs,y.cells.length=5) (h1:1<=xs.length) (hn:xs.length<=1000) (hi:i<=xs.length):
  zN 275 [.ref 1001 0 xs.length,iA i,.ref 98 0 1] [(1001,.arr 5 (xs++[fD 5]) false),(98,.arr 5 [v] false)] (.ref 1001 0 (xs.length+1)) [(1001,.arr 5 (xs.take i++v::xs.drop i) false),(98,.arr 5 [v] false)]:=by
 have hll:(xs++[fD 5]).length=xs.length+1:=by simp
 by_cases he:i=xs.length
 ·subst he
  have hz:(xs++[fD 5]).take xs.length++[v]++(xs++[fD 5]).drop (xs.length+[v].length)=xs.take xs.length++v::xs.drop xs.length:=by
   rw[yCq (yAb _),yAf,yEd,yDz zU];simp
  refine eM call275 λF hF=>?_
  (repeat' (first|refine uL ?_|((first|apply xM|apply wA)<;>intro hc)|(refine zE ?_;first|(refine fB ?_;refine cU tok Z Z Z Z Z Z Z zB zB Z ?_)|(refine xC ?_;refine zPt tok Z Z Z Z Z Z Z Z (λy hy=>by cases hy;exact hv) zU zB zU zB hz Z ?_))|fail))
  exact zL [1001,98] Z Z Z Z
 ·have hlt:i<xs.length:=by omega
  have e1:(xs++[fD 5]).drop i=xs.drop i++[fD 5]:=yEp zB;have hdl:(xs.drop i).length=xs.length-i:=yBh
  have hc1:(((xs++[fD 5]).drop i).take (xs.length+1-i)).take (xs.length+1-(i+1))=xs.drop i:=by
   have e3:((xs++[fD 5]).drop i).take (xs.length+1-i)=xs.drop i++[fD 5]:=by rw[e1];exact yAj vA
   rw[e3,yCq zB,yAj zB]
  have hz1:(xs++[fD 5]).take (i+1)++xs.drop i++(xs++[fD 5]).drop (i+1+(xs.drop i).length)=xs.take (i+1)++xs.drop i:=by
   have e3:(xs++[fD 5]).drop (i+1+(xs.drop i).length)=[]:=yDz (by rw[hll,hdl];omega);rw[e3,yBc,yCq zB]
  have hxd:∀y,(xs.drop i)[0]? =some y->y.cells.length=5:=λy hy=>hx y (yBs (yBx hy))
  have hc2:(([v].drop 0).take 1).take (xs.length+1-i)=[v]:=yAj vA
  have hz2:(xs.take (i+1)++xs.drop i).take i++[v]++(xs.take (i+1)++xs.drop i).drop (i+[v].length)=xs.take i++v::xs.drop i:=by
   have e2:(xs.take (i+1)).length=i+1:=by rw[yA3];omega
   rw[yCq zB,List.take_take,Nat.min_eq_left zB,show i+[v].length=(xs.take (i+1)).length by rw[e2];rfl,List.drop_left,yA7];rfl
  refine eM call275 λF hF=>?_
  (repeat' (first|refine uL ?_|((first|apply xM|apply wA)<;>intro hc)|(refine zE ?_;refine xT ?_;(refine vS 301 ?_;refine wG (HN tok Z Z Z Z Z Z zB zB Z Z Z zB Z Z Z Z Z) Z ?_))|(refine zE ?_;first|(refine fB ?_;first|refine cU tok Z Z Z Z Z Z Z zB zB Z ?_|refine wG (zFg (N:=xs.length+1) tok Z Z Z Z Z Z zB zB zB zB) Z ?_)|(refine zAo tok Z Z Z Z Z Z Z (by first|exact hc1|exact hc2) (by first|exact hxd|(intro y hy;cases hy;exact hv)) (by first|(rw[hdl];omega)|simp) Z (by first|exact hz1|exact hz2) Z ?_)|(refine zVq tok Z Z Z Z zB Z ?_;intro cp hcp))|fail))
  exact zL [1001,98] Z Z Z Z
theorem zK3 (xs:List AV) (v:AV) (i c:Nat) (hv:v.cells.length=5) (hx:∀y∈xs,y.cells.length=5) (h1:1<=xs.length) (hn:xs.length<=1000) (hi:i<=xs.length) (hc:c<xs.length+1):
  zN 275 [.slc c xs,iA i,.ref 98 0 1] [(98,.arr 5 [v] false)] (.sl false (xs.take i++v::xs.drop i)) [(98,.arr 5 [v] false)]:=by
 have hxi:∀(j:Nat) (y:AV),xs[j]? =some y->y.cells.length=5:=λj y hy=>hx y (yBx hy)
 by_cases he:i=xs.length
 ·subst he;refine eM call275 λF hF=>?_
  (repeat' (first|refine uL ?_|((first|apply xM|apply wA)<;>intro hc)|(refine zE ?_;first|(refine wG (CT tok Z Z Z) Z ?_)|(refine fB ?_;refine zBc 10 Z h1 ?_;refine HM tok Z Z Z Z Z (hxi 0) zB zB Z Z ?_)|(refine xC ?_;refine uS (nw:=[25]) (zFh tok 25 Z Z Z Z Z Z Z Z Z Z (λy hy=>by cases hy;exact hv) zU vA vA hxi) Z Z Z ?_))|fail))
  refine zL [98] Z Z ?_ Z
  show AV.sl false ((xs++[v]).take (xs++[v]).length)=_
  rw[yAf,yAf,yEd]
 ·have hlt:i<xs.length:=by omega
  have hdl:(xs.drop i).length=xs.length-i:=yBh;have htl:(xs.take i).length=i:=by rw[yA3];omega
  have hxt:∀(j:Nat) (y:AV),(xs.take i)[j]? =some y->y.cells.length=5:=λj y hy=>hx y (yCc (yBx hy))
  have hxd:∀y,(xs.drop i)[0]? =some y->y.cells.length=5:=λy hy=>hx y (yBs (yBx hy))
  have hx0:∀y,xs[0]? =some y->y.cells.length=5:=hxi 0;have hnx:((xs.length:Int)+1-(i:Int))=((xs.length+1-i:Nat):Int):=by omega
  have hzs:∃zs,xs.take i++List.replicate (xs.length+1-i) (AV.agg [.s (.int .i64 0),.s (.int .i64 0),.s (.int .i64 0),.s (.int .i64 0),.s (.slice none 0 0)])=zs:=⟨_,rfl⟩;obtain⟨zs,hA⟩:=hzs;have hN:zs.length=xs.length+1:=by rw[<-hA,yAd,htl,yB0];omega
  have hzt:zs.take i=xs.take i:=by rw[<-hA,yCq zB,yAj zB]
  have hc1:(([v].drop 0).take 1).take (xs.length+1-i)=[v]:=yAj vA;have hc2:(xs.drop i).take (xs.length+1-(i+1))=xs.drop i:=yAj zB;have hz1:zs.take i++[v]++zs.drop (i+[v].length)=xs.take i++[v]++zs.drop (i+1):=by rw[hzt];rfl
  have e2:(xs.take i++[v]).length=i+1:=by rw[yAd,htl];rfl
  have hz2:(xs.take i++[v]++zs.drop (i+1)).take (i+1)++xs.drop i++(xs.take i++[v]++zs.drop (i+1)).drop (i+1+(xs.drop i).length)=xs.take i++v::xs.drop i:=by
   have e3:(xs.take i++[v]++zs.drop (i+1)).drop (i+1+(xs.drop i).length)=[]:=yDz (by rw[yAd,e2,yBh,hN,hdl];omega);rw[e3,yBc,yCq zB,yAj zB,yA7];rfl
  refine eM call275 λF hF=>?_
  (repeat' (first|refine uL ?_|((first|apply xM|apply wA)<;>intro hc)|(refine zE ?_;first|(refine wG (CT tok Z Z Z) Z ?_)|(refine wG (zMi tok Z Z Z) Z ?_)|(refine fB ?_;first|(refine zBc 10 Z h1 ?_;refine HM tok Z Z Z Z Z (hxi 0) zB zB Z Z ?_)|refine wG (zMj tok Z Z Z Z Z hi) Z ?_|refine cU tok Z Z Z Z Z Z Z zB zB Z ?_|refine HM tok Z Z Z Z Z (hxi 0) zB zB Z Z ?_)|(refine xC ?_;refine zVr tok (n:=xs.length+1-i) Z Z Z Z Z Z Z Z Z Z Z Z Z Z hnx zB (by rw[htl];omega) (by rw[htl];omega) hxt hA hN Z Z Z ?_)|(first|(refine zBc 0 Z h1 ?_;refine zAo tok Z Z Z Z Z Z Z hc1 (λy hy=>by cases hy;exact hv) zU Z hz1 Z ?_)|refine zAo tok Z Z Z Z Z Z Z hc2 hxd (by rw[hdl];omega) Z hz2 Z ?_))|fail))
  refine zL [98] Z Z ?_ Z
  show AV.sl false ((xs.take i++v::xs.drop i).take (xs.length+1))=_
  rw[yAj (by rw[yAd,htl,yAl,hdl];omega)]
def zPu (v:AV) (hv:v.cells.length=5):
  zN 275 [.s (.slice none 0 0),iA 0,.ref 98 0 1] [(98,.arr 5 [v] false)] (.sl false [v]) [(98,.arr 5 [v] false)]:=by
 refine eM call275 λF hF=>?_
 (repeat' (first|refine uL ?_|((first|apply xM|apply wA)<;>intro hc)|(refine zE ?_;first|(refine fB ?_;refine wG (EY tok Z Z Z Z Z) Z ?_)|(refine xC ?_;refine kI tok Z Z Z Z Z Z (λy hy=>by cases hy;exact hv) Z Z Z zU Z ?_))|fail))
 exact zL [98] Z Z Z Z
def vB (x:Rq):zN 205 [yG x] [] (bA true) []:=by
 refine eM call205 λF hF=>?_
 refine WW ?_;exact zJ
def zK4 (l:List Rq) (hn:l.length<=1000) (hb:∀r∈l,r.legs.length<=1000):
  zN 176 [zD yG l,.fn 205 []] [] (.ref 1001 0 (l.map yG).length) [(1001,.arr 5 (l.map yG) false)]:=by
 have hl:=zA yG l;refine eM call176 λF hF=>?_
 refine WW ?_;refine yZ 5 1001 5 Z Z Z ?_;refine yL (l) [1001] [] [1,8,9] [5,10,1,8,9] Z (λi pre T U=>⟨(5,.ref 1001 0 (pre.map yG).length)::(10,iA i)::T,(1001,.arr 5 (pre.map yG) true)::U⟩) ?_;(conv=>whnf);refine⟨by rfl,?_,?_⟩
 ·intro i pre x post hx hi;have hy:=xI yG hx hi;have hlt:=yN hx hi;have hlm:=zA yG pre;have c1:=vB x;have c2:=WQ x (hb x (wR hx));have e:(pre++[x]).map yG=pre.map yG++[yG x]:=by simp
  rw[e];clear hx e;generalize pre.map yG=R at *;refine yR (vH c1 c2) ?_;rfl
 ·(repeat' (first|refine WZN ?_|((first|apply xM|apply wA)<;>intro hc)|fail))
  refine uZ [1001] [4] Z Z ?_;refine CQ 1001 [4] Z Z Z Z Z (yT ?_);exact zL [1001] Z Z Z Z
def zK5:zN 176 [zD yG [],.fn 205 []] [] (.s (.slice none 0 0)) []:=by
 refine eM call176 λF hF=>?_
 refine WW ?_;refine yL (([]:List Rq)) [] [] [1,8,9] [5,10,1,8,9] Z (λi pre T U=>⟨(5,.s (.slice none 0 0))::(10,iA i)::T,U⟩) ?_;(conv=>whnf);refine⟨by rfl,?_,?_⟩
 ·intro i pre x post hx hi
  cases pre<;>cases hx
 ·(refine WW ?_)
  exact zL [] Z Z Z Z
def IJ (l:List Rq) (hn:l.length<=1000) (hb:∀r∈l,r.legs.length<=1000):
  zN 171 [zD yG l] [] (.ref 1001 0 (l.map yG).length) [(1001,.arr 5 (l.map yG) false)]:=by
 have c:=zK4 l hn hb;refine eM call171 λF hF=>?_
 refine zV c ?_;exact zL [1001] Z Z Z Z
def WH:zN 171 [zD yG []] [] (.s (.slice none 0 0)) []:=by
 have c:=zK5;refine eM call171 λF hF=>?_
 refine zV c ?_;exact zL [] Z Z Z Z
section
variable {P:Program} {K0:List Nat} {F:Fr K0} {m:Nat}
def zPv (n len:Nat) {Q:Exit->St->Prop} {id:Nat} {l:List Oper} {st:St} (hlen:Nat.beq l.length len=true) (hm:P.follows .mixedOrders=true)
 (hk:zX P F m l.toArray true (l.take n) st [] (λfs s=>XA l n (MA l) fs.reverse=true/\zX P F m l.toArray false (l.drop n) s [] (λ_ s=>Q .normal s))):vK P F m (.region id l.toArray true) st Q:=zPs n hm hk
end
def TP (l:List Rq) (id:Int):Nat:=l.findIdx λr=>!decide (r.id<id)
def IK (l:List Rq) (id:Int):TP l id<=l.length:=List.findIdx_le_length
def zK6 {l:List Rq} {id:Int} {i:Nat} (h:i<TP l id):(l.getD i default).id<id:=by
 have h1:=IK l id;have:=List.not_of_lt_findIdx h;simpa [List.getD,show i<l.length by omega]using this
def zK7 {l:List Rq} {id:Int} (h:TP l id<l.length):¬(l.getD (TP l id) default).id<id:=by
 have:=List.findIdx_getElem (p:=λr:Rq=>!decide (r.id<id)) (w:=h);have h2:TP l id<l.length:=h;simp only[yCe,yAr]at this;intro h3;refine this ?_;rw[yAg,yAn h2]at h3;exact h3
def cK (id:Int) (v:Vh) (life:Int) (x:List Lg) (now:Int):Rq:=⟨id,v.id,v.cls,now+life,x⟩
def bC (l:List Rq) (r:Rq):List Rq:=l.take (TP l r.id)++r::l.drop (TP l r.id)
def suE (l:List Rq) (q id life:Int) (x:List Lg):Int:=
 if¬(0<=id/\id<=4294967295/\1<=life/\life<=600/\NW x=true)then 8 else if jQ l id=true then 11 else if q<=l.length∨4<=(l.length:Int)then 14 else 0
theorem zK8 (l:List Rq) (q id:Int) (v:Vh) (life:Int) (x:List Lg) (now:Int) (hv:bJ l) (hq:(l.length:Int)<=q) (v0:0<=v.id) (v1:v.id<=4294967295) (w0:0<=v.cls) (w1:v.cls<=3) (n0:0<=now) (n1:now<=1073741824):
  zN 245 [zD yG l,iA q,iA id,vZ v,iA life,zD xP x,iA now] [] (.tup [zD yG (if suE l q id life x=0 then bC l (cK id v life x now)else []),iA (suE l q id life x)]) []:=by
 have h4:=hv.n4;have hl:=zA yG l;have c1:=WN l q hv hq;have c2:=PM v.id;have c3:=zAq v.cls;have c4:=zDc now;have c5:=PM id;have c6:=zDb x;have c7:=PI l id zB;rw[yAe ⟨v0,v1⟩]at c2;rw[yAe ⟨w0,w1⟩]at c3;rw[yAe ⟨n0,n1⟩]at c4;by_cases g1:0<=id/\id<=4294967295
 case neg=>
  rw[yAh g1]at c5;have e:suE l q id life x=8:=zZ8 λh=>g1 ⟨h.1,h.2.1⟩
  rw[e,zZ7 xG];refine eM call245 λF hF=>?_
  refine yR (zt5 c1 c2 c3 c4 c5) ?_;exact zJ
 rw[yAe g1]at c5;by_cases g2:1<=life/\life<=600
 case neg=>
  have e:suE l q id life x=8:=zZ8 λh=>g2 ⟨h.2.2.1,h.2.2.2.1⟩
  rw[e,zZ7 xG];by_cases g3:1<=life
  ·(refine eM call245 λF hF=>?_)
   refine yR (zt5 c1 c2 c3 c4 c5) ?_;exact zJ
  ·(refine eM call245 λF hF=>?_)
   refine yR (zt5 c1 c2 c3 c4 c5) ?_;exact zJ
 obtain⟨g2,g3⟩:=g2
 cases hg:NW x with
 |false=>
  rw[hg]at c6;have e:suE l q id life x=8:=zZ8 λh=>yAs (hg.symm.trans h.2.2.2.2)
  rw[e,zZ7 xG];refine eM call245 λF hF=>?_
  refine yR (zt6 c1 c2 c3 c4 c5 c6) ?_;exact zJ
 |true=>
 rw[hg]at c6
 have e0:suE l q id life x=if jQ l id=true then 11 else if q<=l.length∨4<=(l.length:Int)then 14 else 0:=zZ7 λh=>h ⟨g1.1,g1.2,g2,g3,hg⟩
 cases hh:jQ l id with
 |true=>
  have hx:=II (p:=λx:Rq=>x.id==id) (l:=l) hh;generalize YS (λx:Rq=>x.id==id) l=n at *;have e:suE l q id life x=11:=by rw[e0,zZ8 hh]
  rw[e,zZ7 xG];refine eM call245 λF hF=>?_
  refine yR (zt7 c1 c2 c3 c4 c5 c6 c7) ?_;exact zJ
 |false=>
 have hx:=aD (p:=λx:Rq=>x.id==id) (l:=l) (by simpa [jQ]using hh);rw[hx]at c7;rw[zZ7 (by rw[hh];decide)]at e0;by_cases g4:q<=l.length∨4<=(l.length:Int)
 case pos=>
  rw[zZ8 g4]at e0;rw[e0,zZ7 xG];by_cases g5:q<=l.length
  ·(refine eM call245 λF hF=>?_)
   refine yR (zt7 c1 c2 c3 c4 c5 c6 c7) ?_;exact zJ
  ·have g6:4<=(l.length:Int):=g4.resolve_left g5;refine eM call245 λF hF=>?_
   refine yR (zt7 c1 c2 c3 c4 c5 c6 c7) ?_;exact zJ
 rw[zZ7 g4]at e0;rw[e0,zZ8 Z];have hxl:=IN hg;have c8:=dP x zB;have hk:=IK l id;have hk1:=λi h=>zK6 (l:=l) (id:=id) (i:=i) h
 have hk2:=zK7 (l:=l) (id:=id)
 have hiQ:(l.map yG).take (TP l id)++yG (cK id v life x now)::(l.map yG).drop (TP l id)=(bC l (cK id v life x now)).map yG:=by
  unfold bC cK;rw[yAi,yBb,yE0,yEz]
 have hiL:((bC l (cK id v life x now)).map yG).length=(l.map yG).length+1:=by
  rw[<-hiQ,yAd,yAl,yA3,yBh];omega
 have h5:∀y∈l.map yG,y.cells.length=5:=λy hy=>by
  obtain⟨r,_,rfl⟩:=yA5.1 hy;rfl
 have r1:=λh=>zK2 (l.map yG) (yG (cK id v life x now)) (TP l id) Z h5 h zB zB
 have r2:=λh c hc=>zK3 (l.map yG) (yG (cK id v life x now)) (TP l id) c Z h5 h zB zB hc
 have r3:=zPu (yG (cK id v life x now)) Z;rw[hiQ]at r1 r2;have d1:=IJ l zB (λr hr=>by have:=hv.lg3 hr;omega);clear hv hg;have hR:zD yG (bC l (cK id v life x now))=AV.sl false ((bC l (cK id v life x now)).map yG):=rfl;rw[hR];by_cases hn0:l=[]
 ·subst hn0;have d0:=WH;have hY:(bC [] (cK id v life x now)).map yG=[yG (cK id v life x now)]:=rfl;rw[hY];clear r1 r2 hY hR hiQ hiL;refine eM call245 λF hF=>?_
  refine yR (zt7 c1 c2 c3 c4 c5 c6 c7) ?_;refine zO (0) [10] [10] [0,2,4,5,6,10] [16,0,2,4,5,6,10] Z (λi T U=>⟨(16,iA i)::T,U⟩) ?_;(conv=>whnf);refine⟨by rfl,?_,?_⟩
  ·intro i hi;omega
  ·(refine yR (gK c8 d0 r3) ?_)
   exact zJ
 have hl1:1<=l.length:=by
  cases l with
  |nil=>exact absurd Z hn0
  |cons a b=>simp
 have r1:=r1 zB;have r2:=r2 zB;clear r3 hR hiQ;generalize (bC l (cK id v life x now)).map yG=Y at *;refine eM call245 λF hF=>?_
 refine yR (zt7 c1 c2 c3 c4 c5 c6 c7) ?_;refine zO (TP l id) [10] [10] [0,2,4,5,6,10] [16,0,2,4,5,6,10] Z (λi T U=>⟨(16,iA i)::T,U⟩) ?_;(conv=>whnf);refine⟨by rfl,?_,?_⟩
 ·intro i hi;have hy:=zM yG l i zB;have hlt:=hk1 i hi;generalize l.getD i default=r at *;refine WW ?_;rfl
 ·clear hk1;by_cases hkl:TP l id<l.length
  case' pos=>
   have hy:=zM yG l (TP l id) hkl;have hge:=hk2 hkl;generalize l.getD (TP l id) default=r at*
  all_goals clear hk2
  all_goals generalize TP l id=k at*
  all_goals (have zc1:=c8;have zc2:=d1;(repeat' (first|refine WS ?_|refine SG (I2 (λhc=>?_) λhc=>?_)|refine SG λhc=>?_|(refine zE ?_;first|refine SM ?_)|(first|refine zPv 5 8 Z Z ?_|first|refine SR ?_|refine SK (I2 (λhc=>?_) λhc=>?_)|refine SK λhc=>?_|fail)|fail))<;>clear zc1 zc2)
  all_goals refine zVp SU ?_
  all_goals refine zV7 95 1001 ((l.map yG).length+1) [98] [96,98] (st':=⟨[(96,iA k),(98,.ref 98 0 1)],[(98,.arr 5 [yG (cK id v life x now)] false)]⟩) Z Z zB zB zB Z Z Z (λc hc=>?_) ?_
  case' pos.refine_1|neg.refine_1=>
   have r2:=r2 c hc;refine zV r2 ?_;exact zJ
  all_goals rw[show(l.map yG).length+1-(l.map yG).length=1 by omega]
  all_goals (refine zV r1 ?_)
  all_goals (refine zK [] Z Z ?_ Z;show AV.tup [AV.sl false (Y.take ((l.map yG).length+1)),iA 0]=_;rw[yAj zB])
def fdQ (l:List Rq) (id:Int):Rq:=(l.find? λx=>x.id==id).getD ⟨0,0,0,0,[]⟩
def zC7 {l pre post:List Rq} {x:Rq} {id:Int} (h:l=pre++x::post) (hn:∀y∈pre,y.id≠id) (hx:x.id=id):fdQ l id=x/\jQ l id=true:=by
 subst h;have h1:pre.find? (λv=>v.id==id)=none:=yE8.2 λy hy=>by simpa using hn y hy
 refine⟨?_,by simp[jQ,hx]⟩;unfold fdQ;rw[yF0,h1];simp[hx]
def uW (r:Rq) (k:Nat):AV:= .agg [iA r.id,iA r.vh,iA r.cls,iA r.til,.ref k 0 (r.legs.map xP).length]
def gQ (r:Rq):xN:= .arr 5 (r.legs.map xP) false
def NS (l:List Lg) (h1:1<=l.length) (hl:l.length<=1000):zN 167 [zD xP l] [] (.ref 1101 0 (l.map xP).length) [(1101,.arr 5 (l.map xP) false)]:=by
 have hll:=zA xP l;refine eM call167 λF hF=>?_
 refine yS 0 Z (λcap hx=>?_) ?_
 ·have:l=[]:=by simpa using hx
  subst this;simp at h1
 ·(repeat' (first|refine WV ?_|refine SG (I2 (λhc=>?_) λhc=>?_)|refine SG λhc=>?_|(refine zE ?_;first|(refine xB ?_;refine uS (nw:=[1101]) (yH tok 1101 (xs:=[]) Z Z Z Z Z Z Z Z Z) Z Z Z ?_))|refine SB ?_|(first|refine xS ?_|refine xD ?_|refine vI Z ?_|refine zY Z ?_|refine zS Z ?_|refine xL Z (λhc=>?_) λhc=>?_|refine xA ?_|refine yT ?_|refine xF ?_|refine yW ?_)|fail))
  exact zL [1101] Z Z Z Z
def jL (r:Rq) (h1:1<=r.legs.length) (hl:r.legs.length<=1000):zN 209 [yG r] [] (uW r 1101) [(1101,gQ r)]:=by
 have c:=NS r.legs h1 hl;have hll:=zA xP r.legs;refine eM call209 λF hF=>?_
 refine zV c ?_;exact zL [1101] Z Z Z Z
def NT (l:List Lg) (h1:1<=l.length) (hl:l.length<=1000):zN 167 [zD xP l] [] (.ref 1102 0 (l.map xP).length) [(1102,.arr 5 (l.map xP) false)]:=by
 have hll:=zA xP l;refine eM call167 λF hF=>?_
 refine yS 0 Z (λcap hx=>?_) ?_
 ·have:l=[]:=by simpa using hx
  subst this;simp at h1
 ·(repeat' (first|refine WV ?_|refine SG (I2 (λhc=>?_) λhc=>?_)|refine SG λhc=>?_|(refine zE ?_;first|(refine xB ?_;refine uS (nw:=[1102]) (yH tok 1102 (xs:=[]) Z Z Z Z Z Z Z Z Z) Z Z Z ?_))|refine SB ?_|(first|refine xS ?_|refine xD ?_|refine vI Z ?_|refine zY Z ?_|refine zS Z ?_|refine xL Z (λhc=>?_) λhc=>?_|refine xA ?_|refine yT ?_|refine xF ?_|refine yW ?_)|fail))
  exact zL [1102] Z Z Z Z
def cL (r:Rq) (h1:1<=r.legs.length) (hl:r.legs.length<=1000):zN 209 [yG r] [] (uW r 1102) [(1102,gQ r)]:=by
 have c:=NT r.legs h1 hl;have hll:=zA xP r.legs;refine eM call209 λF hF=>?_
 refine zV c ?_;exact zL [1102] Z Z Z Z
def NU (l:List Lg) (h1:1<=l.length) (hl:l.length<=1000):zN 167 [zD xP l] [] (.ref 1103 0 (l.map xP).length) [(1103,.arr 5 (l.map xP) false)]:=by
 have hll:=zA xP l;refine eM call167 λF hF=>?_
 refine yS 0 Z (λcap hx=>?_) ?_
 ·have:l=[]:=by simpa using hx
  subst this;simp at h1
 ·(repeat' (first|refine WV ?_|refine SG (I2 (λhc=>?_) λhc=>?_)|refine SG λhc=>?_|(refine zE ?_;first|(refine xB ?_;refine uS (nw:=[1103]) (yH tok 1103 (xs:=[]) Z Z Z Z Z Z Z Z Z) Z Z Z ?_))|refine SB ?_|(first|refine xS ?_|refine xD ?_|refine vI Z ?_|refine zY Z ?_|refine zS Z ?_|refine xL Z (λhc=>?_) λhc=>?_|refine xA ?_|refine yT ?_|refine xF ?_|refine yW ?_)|fail))
  exact zL [1103] Z Z Z Z
def WK (r:Rq) (h1:1<=r.legs.length) (hl:r.legs.length<=1000):zN 209 [yG r] [] (uW r 1103) [(1103,gQ r)]:=by
 have c:=NU r.legs h1 hl;have hll:=zA xP r.legs;refine eM call209 λF hF=>?_
 refine zV c ?_;exact zL [1103] Z Z Z Z
def NV (l:List Lg) (h1:1<=l.length) (hl:l.length<=1000):zN 167 [zD xP l] [] (.ref 1104 0 (l.map xP).length) [(1104,.arr 5 (l.map xP) false)]:=by
 have hll:=zA xP l;refine eM call167 λF hF=>?_
 refine yS 0 Z (λcap hx=>?_) ?_
 ·have:l=[]:=by simpa using hx
  subst this;simp at h1
 ·(repeat' (first|refine WV ?_|refine SG (I2 (λhc=>?_) λhc=>?_)|refine SG λhc=>?_|(refine zE ?_;first|(refine xB ?_;refine uS (nw:=[1104]) (yH tok 1104 (xs:=[]) Z Z Z Z Z Z Z Z Z) Z Z Z ?_))|refine SB ?_|(first|refine xS ?_|refine xD ?_|refine vI Z ?_|refine zY Z ?_|refine zS Z ?_|refine xL Z (λhc=>?_) λhc=>?_|refine xA ?_|refine yT ?_|refine xF ?_|refine yW ?_)|fail))
  exact zL [1104] Z Z Z Z
def IL (r:Rq) (h1:1<=r.legs.length) (hl:r.legs.length<=1000):zN 209 [yG r] [] (uW r 1104) [(1104,gQ r)]:=by
 have c:=NV r.legs h1 hl;have hll:=zA xP r.legs;refine eM call209 λF hF=>?_
 refine zV c ?_;exact zL [1104] Z Z Z Z
def zPw (a:Rq) (ha:1<=a.legs.length) (ga:a.legs.length<=1000):zN 176 [zD yG [a],.fn 205 []] [] (.ref 1001 0 1) [(1001,.arr 5 [uW a 1101] ⟨false,true⟩),(1101,gQ a)]:=by
 have ca:=vB a;have da:=jL a ha ga;refine eM call176 λF hF=>?_
 refine WW ?_;refine yZ 5 1001 5 Z Z Z ?_;refine uK 2 [1001,1101] [5,10,1,8,9] Z ?_;refine yU (st0:=⟨[(5,.ref 1001 0 0),(10,iA 0),(1,.fn 205 []),(8,.sl false [yG a]),(9,iA 1)],[(1001,.arr 5 [] ⟨true,false⟩)]⟩) Z ?_
 (have zc1:=ca;have zc2:=da;(repeat' (first|refine RP ?_|((first|apply xM|apply wA)<;>intro hc)|(refine zE ?_;first|(refine xB ?_;refine eE (xs:=[_]) 1002 tok Z Z Z Z Z Z Z Z Z Z Z Z ?_)|(refine xC ?_;first|refine uU tok Z Z Z Z Z Z Z (by intro y hy;cases hy;rfl) Z Z Z zU Z ?_|refine qL tok Z Z Z Z Z Z Z Z Z Z Z (by intro y hy;cases hy;rfl) zU Z ?_))|refine SB ?_|fail))<;>clear zc1 zc2)
 refine yU (st0:=⟨[(5,.ref 1001 0 1),(10,iA 1),(1,.fn 205 []),(8,.sl false [yG a]),(9,iA 1)],[(1001,.arr 5 [uW a 1101] ⟨false,true⟩),(1101,gQ a)]⟩) Z ?_;refine WW ?_;exact zL [1001,1101] Z Z Z Z
def EZ (a:Rq) (ha:1<=a.legs.length) (ga:a.legs.length<=1000):zN 171 [zD yG [a]] [] (.ref 1001 0 1) [(1001,.arr 5 [uW a 1101] ⟨false,true⟩),(1101,gQ a)]:=by
 have c:=zPw a ha ga;refine eM call171 λF hF=>?_
 refine zV c ?_;exact zL [1001,1101] Z Z Z Z
def zPx (a b:Rq) (ha:1<=a.legs.length) (ga:a.legs.length<=1000) (hb:1<=b.legs.length) (gb:b.legs.length<=1000):zN 176 [zD yG [a,b],.fn 205 []] [] (.ref 1001 0 2) [(1001,.arr 5 [uW a 1101,uW b 1102] ⟨true,true⟩),(1101,gQ a),(1102,gQ b)]:=by
 have ca:=vB a;have da:=jL a ha ga;have cb:=vB b;have db:=cL b hb gb;refine eM call176 λF hF=>?_
 refine WW ?_;refine yZ 5 1001 5 Z Z Z ?_;refine uK 3 [1001,1101,1102] [5,10,1,8,9] Z ?_;refine yU (st0:=⟨[(5,.ref 1001 0 0),(10,iA 0),(1,.fn 205 []),(8,.sl false [yG a,yG b]),(9,iA 2)],[(1001,.arr 5 [] ⟨true,false⟩)]⟩) Z ?_
 (have zc1:=ca;have zc2:=da;(repeat' (first|refine RP ?_|((first|apply xM|apply wA)<;>intro hc)|(refine zE ?_;first|(refine xB ?_;refine eE (xs:=[_]) 1002 tok Z Z Z Z Z Z Z Z Z Z Z Z ?_)|(refine xC ?_;first|refine uU tok Z Z Z Z Z Z Z (by intro y hy;cases hy;rfl) Z Z Z zU Z ?_|refine qL tok Z Z Z Z Z Z Z Z Z Z Z (by intro y hy;cases hy;rfl) zU Z ?_))|refine SB ?_|fail))<;>clear zc1 zc2)
 refine yU (st0:=⟨[(5,.ref 1001 0 1),(10,iA 1),(1,.fn 205 []),(8,.sl false [yG a,yG b]),(9,iA 2)],[(1001,.arr 5 [uW a 1101] ⟨false,true⟩),(1101,gQ a)]⟩) Z ?_
 (have zc1:=cb;have zc2:=db;(repeat' (first|refine RP ?_|((first|apply xM|apply wA)<;>intro hc)|(refine zE ?_;first|(refine xB ?_;refine eE (xs:=[_]) 1002 tok Z Z Z Z Z Z Z Z Z Z Z Z ?_)|(refine xC ?_;first|refine uU tok Z Z Z Z Z Z Z (by intro y hy;cases hy;rfl) Z Z Z zU Z ?_|refine qL tok Z Z Z Z Z Z Z Z Z Z Z (by intro y hy;cases hy;rfl) zU Z ?_))|refine SB ?_|fail))<;>clear zc1 zc2)
 refine yU (st0:=⟨[(5,.ref 1001 0 2),(10,iA 2),(1,.fn 205 []),(8,.sl false [yG a,yG b]),(9,iA 2)],[(1001,.arr 5 [uW a 1101,uW b 1102] ⟨true,true⟩),(1101,gQ a),(1102,gQ b)]⟩) Z ?_;refine WW ?_;exact zL [1001,1101,1102] Z Z Z Z
def DA (a b:Rq) (ha:1<=a.legs.length) (ga:a.legs.length<=1000) (hb:1<=b.legs.length) (gb:b.legs.length<=1000):zN 171 [zD yG [a,b]] [] (.ref 1001 0 2) [(1001,.arr 5 [uW a 1101,uW b 1102] ⟨true,true⟩),(1101,gQ a),(1102,gQ b)]:=by
 have c:=zPx a b ha ga hb gb;refine eM call171 λF hF=>?_
 refine zV c ?_;exact zL [1001,1101,1102] Z Z Z Z
def zPy (a b c:Rq) (ha:1<=a.legs.length) (ga:a.legs.length<=1000) (hb:1<=b.legs.length) (gb:b.legs.length<=1000) (hc:1<=c.legs.length) (gc:c.legs.length<=1000):zN 176 [zD yG [a,b,c],.fn 205 []] [] (.ref 1001 0 3) [(1001,.arr 5 [uW a 1101,uW b 1102,uW c 1103] ⟨true,true⟩),(1101,gQ a),(1102,gQ b),(1103,gQ c)]:=by
 have ca:=vB a;have da:=jL a ha ga;have cb:=vB b;have db:=cL b hb gb;have cc:=vB c;have dc:=WK c hc gc;refine eM call176 λF hF=>?_
 refine WW ?_;refine yZ 5 1001 5 Z Z Z ?_;refine uK 4 [1001,1101,1102,1103] [5,10,1,8,9] Z ?_;refine yU (st0:=⟨[(5,.ref 1001 0 0),(10,iA 0),(1,.fn 205 []),(8,.sl false [yG a,yG b,yG c]),(9,iA 3)],[(1001,.arr 5 [] ⟨true,false⟩)]⟩) Z ?_
 (have zc1:=ca;have zc2:=da;(repeat' (first|refine RP ?_|((first|apply xM|apply wA)<;>intro hc)|(refine zE ?_;first|(refine xB ?_;refine eE (xs:=[_]) 1002 tok Z Z Z Z Z Z Z Z Z Z Z Z ?_)|(refine xC ?_;first|refine uU tok Z Z Z Z Z Z Z (by intro y hy;cases hy;rfl) Z Z Z zU Z ?_|refine qL tok Z Z Z Z Z Z Z Z Z Z Z (by intro y hy;cases hy;rfl) zU Z ?_))|refine SB ?_|fail))<;>clear zc1 zc2)
 refine yU (st0:=⟨[(5,.ref 1001 0 1),(10,iA 1),(1,.fn 205 []),(8,.sl false [yG a,yG b,yG c]),(9,iA 3)],[(1001,.arr 5 [uW a 1101] ⟨false,true⟩),(1101,gQ a)]⟩) Z ?_
 (have zc1:=cb;have zc2:=db;(repeat' (first|refine RP ?_|((first|apply xM|apply wA)<;>intro hc)|(refine zE ?_;first|(refine xB ?_;refine eE (xs:=[_]) 1002 tok Z Z Z Z Z Z Z Z Z Z Z Z ?_)|(refine xC ?_;first|refine uU tok Z Z Z Z Z Z Z (by intro y hy;cases hy;rfl) Z Z Z zU Z ?_|refine qL tok Z Z Z Z Z Z Z Z Z Z Z (by intro y hy;cases hy;rfl) zU Z ?_))|refine SB ?_|fail))<;>clear zc1 zc2)
 refine yU (st0:=⟨[(5,.ref 1001 0 2),(10,iA 2),(1,.fn 205 []),(8,.sl false [yG a,yG b,yG c]),(9,iA 3)],[(1001,.arr 5 [uW a 1101,uW b 1102] ⟨true,true⟩),(1101,gQ a),(1102,gQ b)]⟩) Z ?_
 (have zc1:=cc;have zc2:=dc;(repeat' (first|refine RP ?_|((first|apply xM|apply wA)<;>intro hc)|(refine zE ?_;first|(refine xB ?_;refine eE (xs:=[_]) 1002 tok Z Z Z Z Z Z Z Z Z Z Z Z ?_)|(refine xC ?_;first|refine uU tok Z Z Z Z Z Z Z (by intro y hy;cases hy;rfl) Z Z Z zU Z ?_|refine qL tok Z Z Z Z Z Z Z Z Z Z Z (by intro y hy;cases hy;rfl) zU Z ?_))|refine SB ?_|fail))<;>clear zc1 zc2)
 refine yU (st0:=⟨[(5,.ref 1001 0 3),(10,iA 3),(1,.fn 205 []),(8,.sl false [yG a,yG b,yG c]),(9,iA 3)],[(1001,.arr 5 [uW a 1101,uW b 1102,uW c 1103] ⟨true,true⟩),(1101,gQ a),(1102,gQ b),(1103,gQ c)]⟩) Z ?_;refine WW ?_;exact zL [1001,1101,1102,1103] Z Z Z Z
def DB (a b c:Rq) (ha:1<=a.legs.length) (ga:a.legs.length<=1000) (hb:1<=b.legs.length) (gb:b.legs.length<=1000) (hc:1<=c.legs.length) (gc:c.legs.length<=1000):zN 171 [zD yG [a,b,c]] [] (.ref 1001 0 3) [(1001,.arr 5 [uW a 1101,uW b 1102,uW c 1103] ⟨true,true⟩),(1101,gQ a),(1102,gQ b),(1103,gQ c)]:=by
 have c:=zPy a b c ha ga hb gb hc gc;refine eM call171 λF hF=>?_
 refine zV c ?_;exact zL [1001,1101,1102,1103] Z Z Z Z
theorem zPz (a b c d:Rq) (ha:1<=a.legs.length) (ga:a.legs.length<=1000) (hb:1<=b.legs.length) (gb:b.legs.length<=1000) (hc:1<=c.legs.length) (gc:c.legs.length<=1000) (hd:1<=d.legs.length) (gd:d.legs.length<=1000):zN 176 [zD yG [a,b,c,d],.fn 205 []] [] (.ref 1001 0 4) [(1001,.arr 5 [uW a 1101,uW b 1102,uW c 1103,uW d 1104] ⟨true,true⟩),(1101,gQ a),(1102,gQ b),(1103,gQ c),(1104,gQ d)]:=by
 have ca:=vB a;have da:=jL a ha ga;have cb:=vB b;have db:=cL b hb gb;have cc:=vB c;have dc:=WK c hc gc;have cd:=vB d;have dd:=IL d hd gd;refine eM call176 λF hF=>?_
 refine WW ?_;refine yZ 5 1001 5 Z Z Z ?_;refine uK 5 [1001,1101,1102,1103,1104] [5,10,1,8,9] Z ?_;refine yU (st0:=⟨[(5,.ref 1001 0 0),(10,iA 0),(1,.fn 205 []),(8,.sl false [yG a,yG b,yG c,yG d]),(9,iA 4)],[(1001,.arr 5 [] ⟨true,false⟩)]⟩) Z ?_
 (have zc1:=ca;have zc2:=da;(repeat' (first|refine RP ?_|((first|apply xM|apply wA)<;>intro hc)|(refine zE ?_;first|(refine xB ?_;refine eE (xs:=[_]) 1002 tok Z Z Z Z Z Z Z Z Z Z Z Z ?_)|(refine xC ?_;first|refine uU tok Z Z Z Z Z Z Z (by intro y hy;cases hy;rfl) Z Z Z zU Z ?_|refine qL tok Z Z Z Z Z Z Z Z Z Z Z (by intro y hy;cases hy;rfl) zU Z ?_))|refine SB ?_|fail))<;>clear zc1 zc2)
 refine yU (st0:=⟨[(5,.ref 1001 0 1),(10,iA 1),(1,.fn 205 []),(8,.sl false [yG a,yG b,yG c,yG d]),(9,iA 4)],[(1001,.arr 5 [uW a 1101] ⟨false,true⟩),(1101,gQ a)]⟩) Z ?_
 (have zc1:=cb;have zc2:=db;(repeat' (first|refine RP ?_|((first|apply xM|apply wA)<;>intro hc)|(refine zE ?_;first|(refine xB ?_;refine eE (xs:=[_]) 1002 tok Z Z Z Z Z Z Z Z Z Z Z Z ?_)|(refine xC ?_;first|refine uU tok Z Z Z Z Z Z Z (by intro y hy;cases hy;rfl) Z Z Z zU Z ?_|refine qL tok Z Z Z Z Z Z Z Z Z Z Z (by intro y hy;cases hy;rfl) zU Z ?_))|refine SB ?_|fail))<;>clear zc1 zc2)
 refine yU (st0:=⟨[(5,.ref 1001 0 2),(10,iA 2),(1,.fn 205 []),(8,.sl false [yG a,yG b,yG c,yG d]),(9,iA 4)],[(1001,.arr 5 [uW a 1101,uW b 1102] ⟨true,true⟩),(1101,gQ a),(1102,gQ b)]⟩) Z ?_
 (have zc1:=cc;have zc2:=dc;(repeat' (first|refine RP ?_|((first|apply xM|apply wA)<;>intro hc)|(refine zE ?_;first|(refine xB ?_;refine eE (xs:=[_]) 1002 tok Z Z Z Z Z Z Z Z Z Z Z Z ?_)|(refine xC ?_;first|refine uU tok Z Z Z Z Z Z Z (by intro y hy;cases hy;rfl) Z Z Z zU Z ?_|refine qL tok Z Z Z Z Z Z Z Z Z Z Z (by intro y hy;cases hy;rfl) zU Z ?_))|refine SB ?_|fail))<;>clear zc1 zc2)
 refine yU (st0:=⟨[(5,.ref 1001 0 3),(10,iA 3),(1,.fn 205 []),(8,.sl false [yG a,yG b,yG c,yG d]),(9,iA 4)],[(1001,.arr 5 [uW a 1101,uW b 1102,uW c 1103] ⟨true,true⟩),(1101,gQ a),(1102,gQ b),(1103,gQ c)]⟩) Z ?_
 (have zc1:=cd;have zc2:=dd;(repeat' (first|refine RP ?_|((first|apply xM|apply wA)<;>intro hc)|(refine zE ?_;first|(refine xB ?_;refine eE (xs:=[_]) 1002 tok Z Z Z Z Z Z Z Z Z Z Z Z ?_)|(refine xC ?_;first|refine uU tok Z Z Z Z Z Z Z (by intro y hy;cases hy;rfl) Z Z Z zU Z ?_|refine qL tok Z Z Z Z Z Z Z Z Z Z Z (by intro y hy;cases hy;rfl) zU Z ?_))|refine SB ?_|fail))<;>clear zc1 zc2)
 refine yU (st0:=⟨[(5,.ref 1001 0 4),(10,iA 4),(1,.fn 205 []),(8,.sl false [yG a,yG b,yG c,yG d]),(9,iA 4)],[(1001,.arr 5 [uW a 1101,uW b 1102,uW c 1103,uW d 1104] ⟨true,true⟩),(1101,gQ a),(1102,gQ b),(1103,gQ c),(1104,gQ d)]⟩) Z ?_;refine WW ?_;exact zL [1001,1101,1102,1103,1104] Z Z Z Z
def DC (a b c d:Rq) (ha:1<=a.legs.length) (ga:a.legs.length<=1000) (hb:1<=b.legs.length) (gb:b.legs.length<=1000) (hc:1<=c.legs.length) (gc:c.legs.length<=1000) (hd:1<=d.legs.length) (gd:d.legs.length<=1000):zN 171 [zD yG [a,b,c,d]] [] (.ref 1001 0 4) [(1001,.arr 5 [uW a 1101,uW b 1102,uW c 1103,uW d 1104] ⟨true,true⟩),(1101,gQ a),(1102,gQ b),(1103,gQ c),(1104,gQ d)]:=by
 have c:=zPz a b c d ha ga hb gb hc gc hd gd;refine eM call171 λF hF=>?_
 refine zV c ?_;exact zL [1001,1101,1102,1103,1104] Z Z Z Z
theorem PJ (K:List Nat) (h:yC):∀a b:List AV,uO K h (a++b)=uO K h a++uO K h b
 | [],b=>rfl
 |v::a,b=>by rw[yCu,uO,uO,PJ K h a b];rfl
theorem IM (K:List Nat) (h:yC):∀l:List Rq,uO K h (l.map yG)=l.map yG
 | []=>rfl
 |r::l=>by rw[yBb,uO,IM K h l];rfl
theorem UQ (K:List Nat) (h:yC):∀a b:List AV,wH K h (a++b)=wH K h a++wH K h b
 | [],b=>rfl
 |v::a,b=>by rw[yCu,wH,wH,UQ K h a b];rfl
theorem PK (K:List Nat) (h:yC):∀l:List Rq,wH K h (l.map yG)=l.map yG
 | []=>rfl
 |r::l=>by rw[yBb,wH,PK K h l];rfl
theorem YT:∀a b:List AV,xY (a++b)=(xY a&&xY b)
 | [],b=>rfl
 |v::a,b=>by rw[yCu,xY,xY,YT a b,Bool.and_assoc]
theorem UR:∀l:List Rq,xY (l.map yG)=true
 | []=>rfl
 |r::l=>by rw[yBb,xY,UR l];rfl
def bH (pre:List Rq) (x:Rq) (post:List Rq) (k:Nat):List AV:=pre.map yG++uW x k::post.map yG
def aV (pre:List Rq) (x:Rq) (post:List Rq) (k:Nat):(bH pre x post k).length=pre.length+1+post.length:=by simp[bH];omega
def WM (h:yC) (pre:List Rq) (x:Rq) (post:List Rq) (b:Bool):qK [1001,1101] h (.arr 5 (bH pre x post 1101) ⟨b,true⟩)= .arr 5 (bH pre x post 1101) ⟨b,true⟩:=by
 have e:uO [1001,1101] h (bH pre x post 1101)=bH pre x post 1101:=by
  unfold bH;rw[PJ,IM,uO,IM];rfl
 have e2:xY (bH pre x post 1101)=false:=by
  unfold bH;rw[YT,UR,xY];rfl
 show xN.arr 5 (uO [1001,1101] h (bH pre x post 1101)) ⟨b,!xY (uO [1001,1101] h (bH pre x post 1101))⟩=_
 rw[e,e2];rfl
def zP0 (pre:List Rq) (x:Rq) (post:List Rq) (k:Nat) (y:Rq):bH pre x post k++[yG y]=bH pre x (post++[y]) k:=by
 unfold bH;rw[yAi,yA7];rfl
theorem zP1 (pre:List Rq) (x:Rq) (post:List Rq) (l:List Rq) (hL:l=pre++x::post) (hn:l.length<=1000) (hb:∀r∈l,1<=r.legs.length/\r.legs.length<=1000):
  zN 176 [zD yG l,.fn 205 []] [] (.ref 1001 0 (bH pre x post 1101).length) [(1001,.arr 5 (bH pre x post 1101) ⟨true,true⟩),(1101,gQ x)]:=by
 have hl:=zA yG l;have hlen:l.length=pre.length+1+post.length:=by rw[hL];simp;omega
 refine eM call176 λF hF=>?_
 refine WW ?_;refine yZ 5 1001 5 rfl rfl rfl ?_;refine wT (λn st=>∃i,n+i=l.length/\st=if i<=pre.length then(⟨[(5,.ref 1001 0 ((l.take i).map yG).length),(10,iA i),(1,.fn 205 []),(8,zD yG l),(9,iA (l.map yG).length)],[(1001,.arr 5 ((l.take i).map yG) true)]⟩:St)else⟨[(5,.ref 1001 0 (bH pre x (post.take (i-pre.length-1)) 1101).length),(10,iA i),(1,.fn 205 []),(8,zD yG l),(9,iA (l.map yG).length)],[(1001,.arr 5 (bH pre x (post.take (i-pre.length-1)) 1101) ⟨true,true⟩),(1101,gQ x)]⟩) l.length [1001,1101] [5,10,1,8,9] rfl ⟨0,zB,by rw[zZ8 (yAp _)];rfl⟩ ?_;rintro n st ⟨i,hi,rfl⟩;by_cases hip:i<pre.length
 ·rw[zZ8 zB];have hy:=zM yG l i zB;have hm:l.getD i default∈l:=by simp[List.getD,show i<l.length by omega]
  have hs:=hb _ hm
  have e:(l.take (i+1)).map yG=(l.take i).map yG++[yG (l.getD i default)]:=by
   rw[yC2,yAi,yAn zB];simp[List.getD,show i<l.length by omega]
  have hpl:((l.take i).map yG).length=i:=by rw[zZ9,yA3];omega
  have hil:i<l.length:=by omega
  clear hm;generalize l.getD i default=r at *;have c1:=vB r;have c2:=WQ r zB
  (have zc1:=c1;have zc2:=c2;(repeat' (first|refine uL ?_|((first|apply xM|apply wA)<;>intro hc)|(refine zE ?_;first|(refine xC ?_;refine uS (nw:=[]) (vX true false tok Z Z Z Z Z Z (λh=>by cases h) Z (by intro y hy;cases hy;rfl) Z Z Z Z (by simp only[aV,zZ9,yA3,yAl,yBr,yBh];omega) (λh=>by cases h)) Z Z Z ?_)|refine SM ?_)|fail))<;>clear zc1 zc2)
  exact⟨n-1,zB,i+1,zB,by rw[zZ8 zB,e];rfl⟩
 by_cases hie:i=pre.length
 ·rw[zZ8 zB];subst hie;have hil:pre.length<l.length:=by omega
  have ht:(l.take pre.length).map yG=pre.map yG:=by rw[hL];simp
  have hy:(l.map yG)[pre.length]? =some (yG x):=by rw[hL];simp
  have hs:=hb x (by rw[hL];simp);rw[ht];clear hL;have c1:=vB x;have c2:=jL x zB zB;have hpt:pre.length<=1000:=by omega
  (have zc1:=c1;have zc2:=c2;(repeat' (first|refine RP ?_|((first|apply xM|apply wA)<;>intro hc)|(refine zE ?_;first|(refine xB ?_;refine eE (xs:=[_]) 1002 tok Z Z Z Z Z Z Z Z Z Z Z Z ?_)|(refine xC ?_;refine uS (nw:=[]) (vX true true tok Z Z Z Z Z Z (λh=>by cases h) Z (by intro y hy;cases hy;rfl) Z Z Z Z (by simp only[aV,zZ9,yA3,yAl,yBr,yBh];omega) (λh=>by cases h)) Z Z Z ?_))|refine SB ?_|fail))<;>clear zc1 zc2)
  refine⟨n-1,zB,pre.length+1,zB,?_⟩;rw[zZ7 zB,show pre.length+1-pre.length-1=0 by omega];refine yA6 (St.mk _) ?_
  show [(1001,qK [1001,1101] _ (.arr 5 (bH pre x [] 1101) ⟨true,true⟩)),(1101,gQ x)]=_
  rw[WM];rfl
 rw[zZ7 zB];by_cases hil:i<l.length
 ·have hy:=zM yG l i hil;have hm:l.getD i default∈l:=by simp[List.getD,hil]
  have hs:=hb _ hm
  have hg:post[i-pre.length-1]? =some (l.getD i default):=by
   have h1:l[i]? =some (l.getD i default):=by simp[List.getD,hil]
   rw[hL,yA1 zB]at h1;rw[show i-pre.length=(i-pre.length-1)+1 by omega,List.getElem?_cons_succ]at h1;rw[<-hL]at h1;exact h1
  have e:bH pre x (post.take (i+1-pre.length-1)) 1101=bH pre x (post.take (i-pre.length-1)) 1101++[yG (l.getD i default)]:=by
   rw[zP0,show i+1-pre.length-1=(i-pre.length-1)+1 by omega,yC2,hg];rfl
  have hcl:=aV pre x (post.take (i-pre.length-1)) 1101;have hpt:(post.take (i-pre.length-1)).length<=1000:=by rw[yA3];omega
  have hf:=λh=>WM h pre x (post.take (i+1-pre.length-1)) true
  rw[e]at hf;clear hm hg hL;generalize l.getD i default=r at *;generalize bH pre x (post.take (i-pre.length-1)) 1101=cs at *;have c1:=vB r;have c2:=WQ r zB
  (have zc1:=c1;have zc2:=c2;(repeat' (first|refine uL ?_|((first|apply xM|apply wA)<;>intro hc)|(refine zE ?_;first|(refine xC ?_;refine uS (nw:=[]) (vX true true tok Z Z Z Z Z Z (λh=>by cases h) Z (by intro y hy;cases hy;rfl) Z Z Z Z (by simp only[aV,zZ9,yA3,yAl,yBr,yBh];omega) (λh=>by cases h)) Z Z Z ?_)|refine SM ?_)|fail))<;>clear zc1 zc2)
  refine⟨n-1,zB,i+1,zB,?_⟩;rw[zZ7 zB,e];refine yA6 (St.mk _) ?_
  show [(1001,qK [1001,1101] _ (.arr 5 (cs++[yG r]) ⟨true,true⟩)),(1101,gQ x)]=_
  rw[hf]
 ·have hf:=λh=>WM h pre x post true
  rw[show i-pre.length-1=post.length by omega,yAf];generalize bH pre x post 1101=cs at *;refine WW ?_;refine zL [1001,1101] Z Z Z ?_
  show [(1001,qK [1001,1101] _ (.arr 5 cs ⟨true,true⟩)),(1101,gQ x)]=_
  rw[hf]
def DD (pre:List Rq) (x:Rq) (post:List Rq) (l:List Rq) (hL:l=pre++x::post) (hn:l.length<=1000) (hb:∀r∈l,1<=r.legs.length/\r.legs.length<=1000):
  zN 171 [zD yG l] [] (.ref 1001 0 (bH pre x post 1101).length) [(1001,.arr 5 (bH pre x post 1101) ⟨true,true⟩),(1101,gQ x)]:=by
 have c:=zP1 pre x post l hL hn hb;have hf:=λh=>WM h pre x post true
 generalize bH pre x post 1101=cs at *;refine eM call171 λF hF=>?_
 refine zV c ?_;refine zL [1001,1101] Z Z Z ?_
 show [(1001,qK [1001,1101] _ (.arr 5 cs ⟨true,true⟩)),(1101,gQ x)]=_
 rw[hf]
end Av
end Go.Proofs.YteajjdidebfcjaaGreat
