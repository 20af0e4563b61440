/- Part 27. -/
import Derived.Test.YtmamjhmoegjapaaGreatP26
namespace Go.Proofs.YtmamjhmoegjapaaGreat
namespace Av
open Tryz
set_option linter.all false
set_option maxRecDepth 4000
set_option maxHeartbeats 4000000
def WJ {α:Type} (p:α->Bool) (l:List α):Int:=if l.any p=true then(l.findIdx p:Int)else -1
theorem NM {α:Type} {p:α->Bool} {l pre post:List α} {x:α} (h:l=pre++x::post) (hn:∀y∈pre,p y=false) (hx:p x=true):WJ p l=(pre.length:Int):=by
 subst h;have h1:(pre++x::post).any p=true:=by simp[hx]
 have h2:pre.findIdx p=pre.length:=List.findIdx_eq_length.2 (λy hy=>by simpa using hn y hy);unfold WJ;rw[zYp h1,List.findIdx_append,h2,zYo zB,List.findIdx_cons,hx];simp
theorem SH {α:Type} {p:α->Bool} {l:List α} (hn:∀y∈l,p y=false):WJ p l= -1:=by
 unfold WJ;rw[zYo EP]
theorem NN {α:Type} (p:α->Bool) (l:List α):(0<=WJ p l)=(l.any p=true):=by
 unfold WJ
 split<;>simp_all
theorem HP {α:Type} (p:α->Bool) (l:List α): -1<=WJ p l/\WJ p l<=l.length:=by
 unfold WJ;have:=List.findIdx_le_length (p:=p) (xs:=l)
 split<;>omega
theorem zFj (l:List Cl) (hb:l.length<=1073741824):zO 241 [zD dR l,.fn 222 []] [] (iA (WJ (λc=>XD c.k) l)) []:=by
 have hl:=zA dR l;refine eM call241 λF hF=>?_
 refine WW ?_;refine kR (l) [] [] [0,1,7] [8,0,1,7] rfl (λi pre T U zs=>(∀y∈pre,XD y.k=false)/\zs=⟨(8,iA i)::T,U⟩) ?_;(conv=>whnf);refine⟨?_,?_,?_⟩
 ·exact⟨by simp,rfl⟩
 ·rintro i pre x post st hx hi ⟨hp,rfl⟩;have hy:=xO dR hx hi;have hlt:=yX hx hi;have c:=kU x;have hit:=NM (p:=λc=>XD c.k) hx hp
  cases he:XD x.k<;>rw[he]at c
  ·(refine zW c ?_)
   exact⟨λy hy=>by simp at hy;rcases hy with hy|rfl;exact hp y hy;exact he,rfl⟩
  ·rw[hit he,hi];refine zW c ?_;exact zL
 ·rintro st ⟨hp,rfl⟩;rw[SH hp];refine WW ?_;exact zL
theorem HQ (l:List Cl) (hb:l.length<=1073741824):zO 223 [zD dR l,.fn 222 []] [] (bA (l.any λc=>XD c.k)) []:=by
 have c:=zFj l hb;have h:=NN (λc:Cl=>XD c.k) l;have h2:=HP (λc:Cl=>XD c.k) l;generalize WJ (λc:Cl=>XD c.k) l=n at*
 cases ha:(l.any λc=>XD c.k)<;>rw[ha]at h<;>simp at h
 ·(refine eM call223 λF hF=>?_)
  refine zW c ?_;exact zL
 ·(refine eM call223 λF hF=>?_)
  refine zW c ?_;exact zL
def aD (s:Sv):xP:= .box [iA s.ph,iA s.gr,zD iA s.en]
theorem zKg (s:Sv) (x:Cl):zO 220 [dR x,.ptr 4 0 0] [(4,aD s)] (bA (x.ph==s.ph)) [(4,aD s)]:=by
 refine eM call220 λF hF=>?_
 refine WW ?_;exact zJ [4] rfl rfl rfl rfl
theorem zKh (s:Sv) (x:Cl):zO 221 [dR x,.ptr 7 0 0] [(7,.box [.fn 220 [.ptr 4 0 0]]),(4,aD s)] (bA (x.ph==s.ph&&XD x.k)) [(7,.box [.fn 220 [.ptr 4 0 0]]),(4,aD s)]:=by
 have c:=zKg s x;have e:=kU x
 cases h:(x.ph==s.ph)<;>rw[h]at c
 ·(refine eM call221 λF hF=>?_)
  refine xA (vD c e) ?_;exact zJ [7,4] rfl rfl rfl rfl
 ·rw[zZh];refine eM call221 λF hF=>?_
  refine xA (vD c e) ?_;exact zJ [7,4] rfl rfl rfl rfl
theorem CF (s:Sv) (l:List Cl) (hb:l.length<=1073741824):zO 241 [zD dR l,.fn 220 [.ptr 4 0 0]] [(4,aD s)] (iA (WJ (λx:Cl=>x.ph==s.ph) l)) [(4,aD s)]:=by
 have hl:=zA dR l;refine eM call241 λF hF=>?_
 refine WW ?_;refine kR (l) [4] [4] [0,1,7] [8,0,1,7] rfl (λi pre T U zs=>(∀y∈pre,((λx:Cl=>x.ph==s.ph)) y=false)/\zs=⟨(8,iA i)::T,U⟩) ?_;(conv=>whnf);refine⟨?_,?_,?_⟩
 ·exact⟨by simp,rfl⟩
 ·rintro i pre x post st hx hi ⟨hp,rfl⟩;have hy:=xO dR hx hi;have hlt:=yX hx hi;have c:=zKg s x;have hit:=NM (p:=(λx:Cl=>x.ph==s.ph)) hx hp
  try dsimp only at hit
  cases he:((λx:Cl=>x.ph==s.ph)) x<;>(dsimp only at he;rw[he]at c)
  ·(refine zW c ?_)
   exact⟨λy hy=>by simp only[zZa,zZu]at hy;rcases hy with hy|rfl;exact hp y hy;exact he,rfl⟩
  ·rw[hit he,hi];refine zW c ?_;exact zJ [4] rfl rfl rfl rfl
 ·rintro st ⟨hp,rfl⟩;rw[SH hp];refine WW ?_;exact zJ [4] rfl rfl rfl rfl
theorem NP (s:Sv) (l:List Cl) (hb:l.length<=1073741824):zO 223 [zD dR l,.fn 220 [.ptr 4 0 0]] [(4,aD s)] (bA (l.any (λx:Cl=>x.ph==s.ph))) [(4,aD s)]:=by
 have c:=CF s l hb;have h:=NN (λx:Cl=>x.ph==s.ph) l;have h2:=HP (λx:Cl=>x.ph==s.ph) l;generalize WJ (λx:Cl=>x.ph==s.ph) l=n at*
 cases ha:l.any (λx:Cl=>x.ph==s.ph)<;>rw[ha]at h<;>simp at h
 ·(refine eM call223 λF hF=>?_)
  refine zW c ?_;exact zJ [4] rfl rfl rfl rfl
 ·(refine eM call223 λF hF=>?_)
  refine zW c ?_;exact zJ [4] rfl rfl rfl rfl
theorem zA6 (s:Sv) (l:List Cl) (hb:l.length<=1073741824):zO 241 [zD dR l,.fn 221 [.ptr 7 0 0]] [(7,.box [.fn 220 [.ptr 4 0 0]]),(4,aD s)] (iA (WJ (λx:Cl=>x.ph==s.ph&&XD x.k) l)) [(7,.box [.fn 220 [.ptr 4 0 0]]),(4,aD s)]:=by
 have hl:=zA dR l;refine eM call241 λF hF=>?_
 refine WW ?_;refine kR (l) [7,4] [7,4] [0,1,7] [8,0,1,7] rfl (λi pre T U zs=>(∀y∈pre,((λx:Cl=>x.ph==s.ph&&XD x.k)) y=false)/\zs=⟨(8,iA i)::T,U⟩) ?_;(conv=>whnf);refine⟨?_,?_,?_⟩
 ·exact⟨by simp,rfl⟩
 ·rintro i pre x post st hx hi ⟨hp,rfl⟩;have hy:=xO dR hx hi;have hlt:=yX hx hi;have c:=zKh s x;have hit:=NM (p:=(λx:Cl=>x.ph==s.ph&&XD x.k)) hx hp
  try dsimp only at hit
  cases he:((λx:Cl=>x.ph==s.ph&&XD x.k)) x<;>(dsimp only at he;rw[he]at c)
  ·(refine zW c ?_)
   exact⟨λy hy=>by simp only[zZa,zZu]at hy;rcases hy with hy|rfl;exact hp y hy;exact he,rfl⟩
  ·rw[hit he,hi];refine zW c ?_;exact zJ [7,4] rfl rfl rfl rfl
 ·rintro st ⟨hp,rfl⟩;rw[SH hp];refine WW ?_;exact zJ [7,4] rfl rfl rfl rfl
theorem LB (s:Sv) (l:List Cl) (hb:l.length<=1073741824):zO 223 [zD dR l,.fn 221 [.ptr 7 0 0]] [(7,.box [.fn 220 [.ptr 4 0 0]]),(4,aD s)] (bA (l.any (λx:Cl=>x.ph==s.ph&&XD x.k))) [(7,.box [.fn 220 [.ptr 4 0 0]]),(4,aD s)]:=by
 have c:=zA6 s l hb;have h:=NN (λx:Cl=>x.ph==s.ph&&XD x.k) l;have h2:=HP (λx:Cl=>x.ph==s.ph&&XD x.k) l;generalize WJ (λx:Cl=>x.ph==s.ph&&XD x.k) l=n at*
 cases ha:l.any (λx:Cl=>x.ph==s.ph&&XD x.k)<;>rw[ha]at h<;>simp at h
 ·(refine eM call223 λF hF=>?_)
  refine zW c ?_;exact zJ [7,4] rfl rfl rfl rfl
 ·(refine eM call223 λF hF=>?_)
  refine zW c ?_;exact zJ [7,4] rfl rfl rfl rfl
def KL (g:Cf) (s:Sv) (l:List Cl):Bool:=!(l.any λx=>x.ph==s.ph)||decide (g.hold<=s.gr)||((l.any λc=>XD c.k)&& !(l.any λx=>x.ph==s.ph&&XD x.k))
theorem zUn (g:Cf) (s:Sv) (l:List Cl) (hb:l.length<=1073741824):zO 195 [wJ g,vC s,zD dR l] [] (bA (KL g s l)) []:=by
 have c1:=NP s l hb;have c2:=LB s l hb;have c3:=HQ l hb;unfold KL;generalize (l.any λx=>x.ph==s.ph)=m at *;generalize (l.any λx=>x.ph==s.ph&&XD x.k)=u at *;generalize (l.any λc=>XD c.k)=e at *;by_cases h:g.hold<=s.gr
 ·rw[zYu h]
  cases m<;>cases u<;>cases e<;>(simp only[yDt,yDp,yA4,yBh,yBe,yCx,yCh];(refine eM call195 λF hF=>?_);(refine xA (gK c1 c3 c2) ?_);exact zL)
 ·rw[zYw h]
  cases m<;>cases u<;>cases e<;>(simp only[yDt,yDp,yA4,yBh,yBe,yD9,yCx,yCh];(refine eM call195 λF hF=>?_);(refine xA (gK c1 c3 c2) ?_);exact zL)
def eJ (g:Cf) (s:Sv) (l:List Cl) (now:Int):Sv:=if s.ph≠ -1/\KL g s l=true then fL s now else s
def kT (g:Cf) (s:Sv) (l:List Cl) (now:Int):Sv:=
 if(eJ g s l now).ph= -1/\0<=kV g (eJ g s l now) now l l.length then⟨(l.getD (kV g (eJ g s l now) now l l.length).toNat default).ph,0,(eJ g s l now).en⟩else eJ g s l now
theorem SI (s:Sv) (now:Int):(fL s now).en.length=s.en.length:=by unfold fL;dsimp only;split<;>simp
theorem zKi (g:Cf) (s:Sv) (l:List Cl) (now:Int):(eJ g s l now).en.length=s.en.length:=by unfold eJ;split;exact SI s now;rfl
structure DcB (g:Cf) (s:Sv) (l:List Cl) (now:Int):Prop where
 p:1<=g.per
 c0: -1000000<=g.cap
 c1:g.cap<=1000000
 n0:0<=now
 n1:now<=1000000000
 en:∀e∈s.en,-1<=e/\e<=now
 k:∀c∈l,0<=c.k/\c.k<=3
 si:∀c∈l,0<=c.si/\c.si<=now
 len:l.length<=1000
 sl:s.en.length<=1000
theorem NQ (s:Sv) (now:Int) (h0:0<=now) (h:∀e∈s.en,-1<=e/\e<=now):∀e∈(fL s now).en,-1<=e/\e<=now:=by
 unfold fL;dsimp only;split
 ·intro e he
  rcases yBy he with he|rfl
  ·exact h e he
  ·omega
 ·exact h
theorem zC9 (g:Cf) (s:Sv) (l:List Cl) (now:Int) (h0:0<=now) (h:∀e∈s.en,-1<=e/\e<=now):∀e∈(eJ g s l now).en,-1<=e/\e<=now:=by
 unfold eJ;split;exact NQ s now h0 h;exact h
theorem DcB.ok {g:Cf} {s:Sv} {l:List Cl} {now:Int} (H:DcB g s l now) (s':Sv) (he:∀e∈s'.en,-1<=e/\e<=now):∀i,i<l.length->COk g.per now s'.en (l.getD i default):=λi hi=>by
 have hk:=YM (λc:Cl=>0<=c.k/\c.k<=3) default l i H.k hi;have hs:=YM (λc:Cl=>0<=c.si/\c.si<=now) default l i H.si hi;have he:=zP3 s'.en now (l.getD i default).ph H.n0 he;have:=H.p;have:=H.n0;have:=H.n1
 constructor<;>(try unfold US)<;>omega
theorem zKj (g:Cf) (s:Sv) (l:List Cl) (now:Int) (H:DcB g s l now):zO 161 [wJ g,vC s,zD dR l,iA now] [] (vC (kT g s l now)) []:=by
 have hb:SvB s:=⟨by have:=H.sl;omega⟩;have c1:=UV s hb;have c2:=zUn g s l (by have:=H.len;omega);have c3:=zK5 s hb now;have hl:=zA dR l;have hll:=H.len;have he:=zC9 g s l now H.n0 H.en;have c4:=zU2 g (eJ g s l now) now l zB (H.ok _ he);have hbd:=UU g (eJ g s l now) now l l.length
 have hd:eJ g s l now=if s.ph≠ -1/\KL g s l=true then fL s now else s:=rfl
 unfold kT;generalize eJ g s l now=s1 at *;generalize kV g s1 now l l.length=b at *;generalize KL g s l=ov at *;generalize fL s now=s2 at *;by_cases h1:s.ph= -1
 ·rw[zYo (by simp[h1])]at hd;subst hd;by_cases h2:0<=b
  ·rw[zYp ⟨h1,h2⟩];have hy:=yP dR l b h2 zB;generalize l.getD b.toNat default=cl at *;refine eM call161 λF hF=>?_
   refine xA (vD c1 c4) ?_;exact zL
  ·rw[zYo (λh=>h2 h.2)];refine eM call161 λF hF=>?_
   refine xA (vD c1 c4) ?_;exact zL
 cases ov with
 |false=>
  rw[zYo zU]at hd;subst hd;rw[zYo (λh=>h1 h.1)];refine eM call161 λF hF=>?_
  refine xA (vD c1 c2) ?_;exact zL
 | true=>
  rw[zYp ⟨h1,rfl⟩]at hd;subst hd;by_cases h3:s1.ph= -1
  ·by_cases h2:0<=b
   ·rw[zYp ⟨h3,h2⟩];have hy:=yP dR l b h2 zB;generalize l.getD b.toNat default=cl at *;refine eM call161 λF hF=>?_
    refine xA (aG c1 c2 c3 c4) ?_;exact zL
   ·rw[zYo (λh=>h2 h.2)];refine eM call161 λF hF=>?_
    refine xA (aG c1 c2 c3 c4) ?_;exact zL
  ·rw[zYo (λh=>h3 h.1)];refine eM call161 λF hF=>?_
   refine xA (aG c1 c2 c3 c4) ?_;exact zL
theorem zDa (g:Cf) (s:Sv) (l:List Cl) (now:Int):(kT g s l now).en=(eJ g s l now).en:=by unfold kT;split<;>rfl
theorem UQ (g:Cf) (s:Sv) (l:List Cl) (now:Int):(kT g s l now).en.length=s.en.length:=by rw[zDa];exact zKi g s l now
theorem zA7 (g:Cf) (s:Sv) (l:List Cl) (now:Int):(eJ g s l now=s∨(s.ph≠ -1/\KL g s l=true/\eJ g s l now=fL s now)):=by
 unfold eJ;split
 ·rename_i h;exact .inr ⟨h.1,h.2,rfl⟩
 ·exact .inl rfl
theorem zDb (g:Cf) (s:Sv) (l:List Cl) (now:Int):(eJ g s l now).ph=s.ph/\(eJ g s l now).gr=s.gr∨(eJ g s l now).ph= -1/\(eJ g s l now).gr=0:=by
 rcases zA7 g s l now with hd|⟨_,_,hd⟩
 ·exact .inl (by rw[hd];exact⟨rfl,rfl⟩)
 ·exact .inr (by rw[hd];exact⟨rfl,rfl⟩)
theorem zUo (g:Cf) (s:Sv) (l:List Cl) (now:Int) (n:Int) (hl:∀c∈l,0<=c.ph/\c.ph<n) (h: -1<=s.ph/\s.ph<n/\0<=s.gr/\s.gr<=60) (h0:0<=n): -1<=(kT g s l now).ph/\(kT g s l now).ph<n/\0<=(kT g s l now).gr/\(kT g s l now).gr<=60:=by
 have h1:=zDb g s l now;have hb:=UU g (eJ g s l now) now l l.length;unfold kT;split
 ·rename_i hh;have:=YM (λc:Cl=>0<=c.ph/\c.ph<n) default l (kV g (eJ g s l now) now l l.length).toNat hl zB;dsimp only;omega
 ·omega
theorem zKk (g:Cf) (s:Sv) (l:List Cl) (now:Int) (h0:0<=now) (h:∀e∈s.en,-1<=e/\e<=now):∀e∈(kT g s l now).en,-1<=e/\e<=now:=by rw[zDa];exact zC9 g s l now h0 h
theorem zUp (s:Sv) (b:Bool):(dU s b).en=s.en/\(dU s b).ph=s.ph:=by unfold dU;split<;>exact⟨rfl,rfl⟩
theorem zUq (s:Sv) (b:Bool) (h:0<=s.gr/\s.gr<=60):0<=(dU s b).gr/\(dU s b).gr<=60:=by unfold dU;split;(dsimp only;omega);exact h
theorem zW7 (s:Sv) (b:Bool) (hz:s.ph= -1->s.gr=0):(dU s b).ph= -1->(dU s b).gr=0:=by
 unfold dU;split
 ·rename_i h;intro h2;exact absurd h2 h.2
 ·exact hz
theorem zW8 (g:Cf) (s:Sv) (l:List Cl) (now:Int) (hz:s.ph= -1->s.gr=0):(kT g s l now).ph= -1->(kT g s l now).gr=0:=by
 have h1:=zDb g s l now;unfold kT;split
 ·exact λ_=>rfl
 ·intro h2;rcases h1 with h1|h1
  ·rw[h1.2];exact hz zB
  ·exact h1.2
structure EI (n:Nat) (d:Dk) (s:Sv) (now:Int):Prop where
 len:s.en.length=n
 en:∀e∈s.en,-1<=e/\e<now
 p0: -1<=s.ph
 p1:s.ph<n
 g0:0<=s.gr
 g1:s.gr<=60
 n0:1<=now
 n1:now+rem d<=301
 z:s.ph= -1->s.gr=0
theorem EI.next {n:Nat} {d:Dk} {s:Sv} {now:Int} (H:EI n d s now) (g:Cf) (c:List Cl) (hcl:∀x∈c,ClB n now x) (b:Bool) (d':Dk) (hd:rem d'+1<=rem d):EI n d' (dU (kT g s c now) b) (now+1):=by
 have hp:=zUo g s c now n (λx hx=>⟨(hcl x hx).p0,(hcl x hx).p1⟩) ⟨H.p0,H.p1,H.g0,H.g1⟩ zB;have hg:=zUq (kT g s c now) b hp.2.2;obtain⟨e1,e2⟩:=zUp (kT g s c now) b;have:=H.n0;have:=H.n1;have he:=zKk g s c now zB (λe he=>by have:=H.en e he;omega);refine⟨by rw[e1,UQ];exact H.len,λe h=>?_,zB,zB,zB,zB,zB,zB,λh=>?_⟩
 case refine_2=>exact zW7 _ b (zW8 g s c now H.z) h
 rw[e1]at h;have:=he e h;omega
theorem zDc (s:Sg) (h1:s.c.li.length<=1073741824) (h2:s.c.nx.length<=1073741824):zO 104 [vF s] [] (vF s) []:=by
 have c1:=KO s.c.li h1;have c2:=KN s.c.nx h2;refine eM call104 λF hF=>?_
 refine xA (vD c1 c2) ?_;exact zL
def grB (s:Sg) (v:Sv):Bool:=decide (0<=v.ph/\v.ph<s.c.li.length)&&((vI s.c v.ph.toNat).lamp==1)
def dvF (g:Cf) (j:Jn) (s:Sg) (v:Sv) (l:List Cl) (k now:Int):Sg×Sv:=
 if s.lat=true then(s,fL v now)
 else if(sjF j s (kT g v l now).ph k).lat=true then(sjF j s (kT g v l now).ph k,fL (kT g v l now) now)
 else(sjF j s (kT g v l now).ph k,dU (kT g v l now) (grB (sjF j s (kT g v l now).ph k) (kT g v l now)))
theorem zPr (g:Cf) (j:Jn) (J:JV j) (s:Sg) (C:CV j s.c) (v:Sv) (l:List Cl) (k now:Int) (H:DcB g v l now) (hgr: -1000000<=(kT g v l now).gr):zO 112 [wJ g,wC j,vF s,vC v,zD dR l,iA k,iA now] [] (.tup [vF (dvF g j s v l k now).1,vC (dvF g j s v l k now).2]) []:=by
 have hJ:=J.n;have hn:=C.n;have hm:=C.m;have hb:SvB v:=⟨by have:=H.sl;omega⟩;have hb2:SvB (kT g v l now):=⟨by rw[UQ];have:=H.sl;omega⟩;have c0:=zDc s zB zB;have c1:=zK5 v hb now;have c2:=zKj g v l now H;have c3:=zP0 j J s C (kT g v l now).ph k;have c4:=zK5 (kT g v l now) hb2 now;have c5:=zP4 (kT g v l now) hb2 (grB (sjF j s (kT g v l now).ph k) (kT g v l now)) hgr;have X:=zXe J C (kT g v l now).ph k;have hxn:=X.n;unfold dvF;generalize fL v now=v0 at *;generalize kT g v l now=v1 at *;generalize fL v1 now=v2 at *;generalize sjF j s v1.ph k=x at *;have hgb:grB x v1=(decide (0<=v1.ph/\v1.ph<x.c.li.length)&&((vI x.c v1.ph.toNat).lamp==1)):=rfl;generalize grB x v1=b at *;generalize dU v1 b=v3 at *;clear H hgr X C hb hb2;obtain⟨sc,sl⟩:=s;obtain⟨xc,xl⟩:=x;dsimp only at *;have hlx:=zA vM xc.li
 cases sl with
 |true=>
  rw[zYp rfl];refine eM call112 λF hF=>?_
  refine xA (vD c0 c1) ?_;exact zL
 |false=>
 rw[zYo zZb]
 cases xl with
 |true=>
  rw[zYp rfl];refine eM call112 λF hF=>?_
  refine xA (gK c2 c3 c4) ?_;exact zL
 |false=>
 rw[zYo zZb];dsimp only;rw[show vF ⟨xc,false⟩= .agg [zD vM xc.li,iA xc.gr,zD iA xc.nx,iA xc.wt,bA false]from rfl]at *; by_cases h1:0<=v1.ph
 case neg=>
  rw[zYw (λh=>h1 h.1),yAf]at hgb;subst hgb;refine eM call112 λF hF=>?_
  refine xA (gK c2 c3 c5) ?_;exact zL
 by_cases h2:v1.ph<xc.li.length
 case neg=>
  rw[zYw (λh=>h2 h.2),yAf]at hgb;subst hgb;refine eM call112 λF hF=>?_
  refine xA (gK c2 c3 c5) ?_;exact zL
 rw[zYu ⟨h1,h2⟩,zZh]at hgb;have hy:=yP vM xc.li v1.ph h1 h2
 change (xc.li.map vM)[v1.ph.toNat]? =some (vM (vI xc v1.ph.toNat))at hy
 generalize vI xc v1.ph.toNat=a at *;by_cases h3:a.lamp=1
 ·rw[show(a.lamp==1)=true by rw[zZ7];exact h3]at hgb;subst hgb;refine eM call112 λF hF=>?_
  refine xA (gK c2 c3 c5) ?_;exact zL
 ·rw[show(a.lamp==1)=false by rw[zZw];exact h3]at hgb;subst hgb;refine eM call112 λF hF=>?_
  refine xA (gK c2 c3 c5) ?_;exact zL
theorem zW9 {j:Jn} (J:JV j) {s:Sg} (C:CV j s.c) (g:Cf) (v:Sv) (c:List Cl) (k now:Int):CV j (dvF g j s v c k now).1.c:=by
 unfold dvF;split
 ·exact C
 ·split<;>exact zXe J C _ _
def ph2:Ph:=⟨0,0,1,1,1,0,0,0⟩
def j2:Jn:=⟨[ph2],[0],0⟩
structure Ss where
 op:Bool
 dr:Bool
 bf:List Int
 gb:Bool
instance:Inhabited Ss:=⟨⟨false,false,[],false⟩⟩
def UR (m n:Nat):Nat:=min n (256-m)
def CG (s:Ss) (b:List Int):Ss:=if s.op=true then⟨true,s.dr||decide (UR s.bf.length b.length≠b.length),s.bf++b.take (UR s.bf.length b.length),s.gb⟩else s
theorem zPs {s:Ss} (h:s.bf.length<=256) (b:List Int):(CG s b).bf.length<=256:=by
 unfold CG;split
 ·simp only[zYr,zY5];unfold UR;omega
 ·exact h
theorem zA8 (l:List Vw) (hl:l.length<=1073741824):zO 136 [zD vO l] [] (.ref 1001 0 (l.map vO).length) [(1001,.arr 4 (l.map vO) false)]:=by
 have hll:=zA vO l;refine eM call136 λF hF=>?_
 refine xD 0 rfl (λcap hx=>?_) ?_
 ·have:l=[]:=by simpa using hx
  subst this
  (repeat' (first|refine AX ?_|refine xR (λhc=>?_) (λhc=>?_)|refine wE (λhc=>?_)|fail))
  refine uB 2 1001 4 rfl rfl rfl (yQ ?_);exact zJ [1001] rfl rfl rfl rfl
 ·repeat' (first|(refine zE ?_;first|refine wZ tok rfl rfl ?_|(refine wS ?_;refine yF (yM tok (.inl ⟨rfl,rfl⟩) rfl rfl rfl rfl) rfl ?_)|(refine yZ ?_;refine uF (nw:=[1001]) (yK tok 1001 (xs:=[]) rfl rfl rfl rfl rfl rfl rfl rfl rfl) rfl rfl rfl ?_)|(refine yW ?_;refine xX tok rfl rfl rfl rfl rfl rfl rfl (yY _ _ (λ_=>rfl)) rfl rfl rfl zB rfl ?_)|refine uM ?_)|(first|refine xM ?_|refine xB ?_|refine wU rfl ?_|refine zV rfl ?_|refine zQ rfl ?_|refine xF rfl (λhc=>?_) (λhc=>?_)|refine yV ?_|refine yQ ?_|refine xC ?_|refine yN ?_))
  exact zJ [1001] rfl rfl rfl rfl
theorem YL (l:List Vw) (hn:l.length<=1000) (hb:∀v∈l,v.co.length<=1000/\v.cn.length<=1000):zO 81 [zD vO l] [] (zD vO l) []:=by
 have c:=zA8 l zB;have hll:=zA vO l;refine eM call81 λF hF=>?_
 refine zW c ?_;refine zP ((l.map vO).length) [1001] [] [0,7] [8,0,7] rfl (λi T U=>⟨(8,iA i)::T,(1001,.arr 4 (jC i (l.map vO)) false)::U⟩) ?_;(conv=>whnf);refine⟨by rfl,?_,?_⟩
 ·intro i hi;have hi':i<l.length:=by omega
  have hy:(jC i (l.map vO))[i]? =some (vO (l.getD i default)):=zN vO l i hi';have e:=kO vO l i hi';have hbb:=hb (l.getD i default) aH;have c1:=VH (l.getD i default).co zB;have c2:=VH (l.getD i default).cn zB;generalize (l.getD i default)=t at *;generalize jC i (l.map vO)=xs at *;generalize jC (i+1) (l.map vO)=ys at *;have hs:=fF hy;have hy2:(xs.set i (.agg [bA t.fl,bA t.ov,zD iA t.co,zD iA t.cn]))[i]? =some (vO t):=by rw[show AV.agg [bA t.fl,bA t.ov,zD iA t.co,zD iA t.cn]=vO t from rfl,hs];exact hy
  have e2:(xs.set i (.agg [bA t.fl,bA t.ov,zD iA t.co,zD iA t.cn])).set i (.agg [bA t.fl,bA t.ov,zD iA t.co,zD iA t.cn])=ys:=by rw[yDl];exact e
  clear e hs;subst e2;refine xA (vD c1 c2) ?_;rfl
 ·(refine WW ?_)
  exact zI [] rfl rfl (zZl (AV.sl false) zYv) rfl
def kN (s:Ss):AV:= .agg [bA s.op,bA s.dr,zD yA s.bf,bA s.gb]
theorem HR (s:Ss) (h:s.bf.length<=1000):zO 58 [kN s] [] (kN s) []:=by
 have c:=wK s.bf zB;unfold kN;refine eM call58 λF hF=>?_
 refine zW c ?_;exact zL
structure Ev where
 k:Int
 s:Int
 a:Int
 b:Int
 y:List Int
instance:Inhabited Ev:=⟨⟨0,0,0,0,[]⟩⟩
def wT (e:Ev):AV:= .agg [iA e.k,iA e.s,iA e.a,iA e.b,zD yA e.y]
theorem zKl (e:Ev) (h:e.y.length<=1000000):zO 76 [wT e] [] (wT e) []:=by
 have c:=wK e.y zB;unfold wT;refine eM call76 λF hF=>?_
 refine zW c ?_;exact zL
structure Cy where
 c:Cf
 rf:Bool
 now:Int
 ds:List xQ
 sg:List Sg
 sv:List Sv
 st:List Int
 vw:List Vw
instance:Inhabited xQ:=⟨⟨⟨0,⟨[],0,0,[],0,0,0,0⟩,[],[],⟨0,0,0⟩⟩,[],[],[]⟩⟩
instance:Inhabited Sg:=⟨⟨⟨[],0,[],0⟩,false⟩⟩
instance:Inhabited Sv:=⟨⟨-1,0,[]⟩⟩
def YV (c:Cf) (rf:Bool) (now:Int) (a b s t v:AV):AV:= .agg [zD wC c.js,zD wN c.ags,iA c.per,iA c.cap,iA c.hold,iA c.lock,bA rf,iA now,a,b,s,t,v]
def qB (y:Cy):AV:=YV y.c y.rf y.now (zD zK y.ds) (zD vF y.sg) (zD vC y.sv) (zD iA y.st) (zD vO y.vw)
def zKm (y:Cy):AV:=YV y.c y.rf y.now (.ref 1011 0 (y.ds.map zK).length) (.ref 1012 0 (y.sg.map vF).length) (.ref 1013 0 (y.sv.map vC).length) (.ref 1014 0 (y.st.map iA).length) (zD vO y.vw)
def zKn (y:Cy):List (Nat×xP):=[(1011,.arr 17 (y.ds.map zK) false),(1012,.arr 5 (y.sg.map vF) false),(1013,.arr 3 (y.sv.map vC) false),(1014,.arr 1 (y.st.map iA) false)]
structure CyB (y:Cy):Prop where
 d:y.ds.length<=1000
 db:∀d∈y.ds,eU d
 g:y.sg.length<=1000
 gb:∀s∈y.sg,s.c.li.length<=1000/\s.c.nx.length<=1000
 s:y.sv.length<=1000
 sb:∀s∈y.sv,s.en.length<=1000
 t:y.st.length<=1000
 v:y.vw.length<=1000
 vb:∀v∈y.vw,v.co.length<=1000/\v.cn.length<=1000
theorem ZK (l:List xQ) (hl:l.length<=1073741824):zO 101 [zD zK l] [] (.ref 1011 0 (l.map zK).length) [(1011,.arr 17 (l.map zK) false)]:=by
 have hll:=zA zK l;refine eM call101 λF hF=>?_
 refine xD 0 rfl (λcap hx=>?_) ?_
 ·have:l=[]:=by simpa using hx
  subst this
  (repeat' (first|refine AX ?_|refine xR (λhc=>?_) (λhc=>?_)|refine wE (λhc=>?_)|fail))
  refine uB 2 1011 17 rfl rfl rfl (yQ ?_);exact zJ [1011] rfl rfl rfl rfl
 ·repeat' (first|(refine zE ?_;first|refine wZ tok rfl rfl ?_|(refine wS ?_;refine yF (yM tok (.inl ⟨rfl,rfl⟩) rfl rfl rfl rfl) rfl ?_)|(refine yZ ?_;refine uF (nw:=[1011]) (yK tok 1011 (xs:=[]) rfl rfl rfl rfl rfl rfl rfl rfl rfl) rfl rfl rfl ?_)|(refine yW ?_;refine xX tok rfl rfl rfl rfl rfl rfl rfl (yY _ _ (λ_=>rfl)) rfl rfl rfl zB rfl ?_)|refine uM ?_)|(first|refine xM ?_|refine xB ?_|refine wU rfl ?_|refine zV rfl ?_|refine zQ rfl ?_|refine xF rfl (λhc=>?_) (λhc=>?_)|refine yV ?_|refine yQ ?_|refine xC ?_|refine yN ?_))
  exact zJ [1011] rfl rfl rfl rfl
theorem ZL (l:List Sg) (hl:l.length<=1073741824):zO 103 [zD vF l] [] (.ref 1012 0 (l.map vF).length) [(1012,.arr 5 (l.map vF) false)]:=by
 have hll:=zA vF l;refine eM call103 λF hF=>?_
 refine xD 0 rfl (λcap hx=>?_) ?_
 ·have:l=[]:=by simpa using hx
  subst this
  (repeat' (first|refine AX ?_|refine xR (λhc=>?_) (λhc=>?_)|refine wE (λhc=>?_)|fail))
  refine uB 2 1012 5 rfl rfl rfl (yQ ?_);exact zJ [1012] rfl rfl rfl rfl
 ·repeat' (first|(refine zE ?_;first|refine wZ tok rfl rfl ?_|(refine wS ?_;refine yF (yM tok (.inl ⟨rfl,rfl⟩) rfl rfl rfl rfl) rfl ?_)|(refine yZ ?_;refine uF (nw:=[1012]) (yK tok 1012 (xs:=[]) rfl rfl rfl rfl rfl rfl rfl rfl rfl) rfl rfl rfl ?_)|(refine yW ?_;refine xX tok rfl rfl rfl rfl rfl rfl rfl (yY _ _ (λ_=>rfl)) rfl rfl rfl zB rfl ?_)|refine uM ?_)|(first|refine xM ?_|refine xB ?_|refine wU rfl ?_|refine zV rfl ?_|refine zQ rfl ?_|refine xF rfl (λhc=>?_) (λhc=>?_)|refine yV ?_|refine yQ ?_|refine xC ?_|refine yN ?_))
  exact zJ [1012] rfl rfl rfl rfl
theorem ZM (l:List Sv) (hl:l.length<=1073741824):zO 105 [zD vC l] [] (.ref 1013 0 (l.map vC).length) [(1013,.arr 3 (l.map vC) false)]:=by
 have hll:=zA vC l;refine eM call105 λF hF=>?_
 refine xD 0 rfl (λcap hx=>?_) ?_
 ·have:l=[]:=by simpa using hx
  subst this
  (repeat' (first|refine AX ?_|refine xR (λhc=>?_) (λhc=>?_)|refine wE (λhc=>?_)|fail))
  refine uB 2 1013 3 rfl rfl rfl (yQ ?_);exact zJ [1013] rfl rfl rfl rfl
 ·repeat' (first|(refine zE ?_;first|refine wZ tok rfl rfl ?_|(refine wS ?_;refine yF (yM tok (.inl ⟨rfl,rfl⟩) rfl rfl rfl rfl) rfl ?_)|(refine yZ ?_;refine uF (nw:=[1013]) (yK tok 1013 (xs:=[]) rfl rfl rfl rfl rfl rfl rfl rfl rfl) rfl rfl rfl ?_)|(refine yW ?_;refine xX tok rfl rfl rfl rfl rfl rfl rfl (yY _ _ (λ_=>rfl)) rfl rfl rfl zB rfl ?_)|refine uM ?_)|(first|refine xM ?_|refine xB ?_|refine wU rfl ?_|refine zV rfl ?_|refine zQ rfl ?_|refine xF rfl (λhc=>?_) (λhc=>?_)|refine yV ?_|refine yQ ?_|refine xC ?_|refine yN ?_))
  exact zJ [1013] rfl rfl rfl rfl
theorem ZN (l:List Int) (hl:l.length<=1073741824):zO 107 [zD iA l] [] (.ref 1014 0 (l.map iA).length) [(1014,.arr 1 (l.map iA) false)]:=by
 have hll:=zA iA l;refine eM call107 λF hF=>?_
 refine xD 0 rfl (λcap hx=>?_) ?_
 ·have:l=[]:=by simpa using hx
  subst this
  (repeat' (first|refine AX ?_|refine xR (λhc=>?_) (λhc=>?_)|refine wE (λhc=>?_)|fail))
  refine uB 2 1014 1 rfl rfl rfl (yQ ?_);exact zJ [1014] rfl rfl rfl rfl
 ·repeat' (first|(refine zE ?_;first|refine wZ tok rfl rfl ?_|(refine wS ?_;refine yF (yM tok (.inl ⟨rfl,rfl⟩) rfl rfl rfl rfl) rfl ?_)|(refine yZ ?_;refine uF (nw:=[1014]) (yK tok 1014 (xs:=[]) rfl rfl rfl rfl rfl rfl rfl rfl rfl) rfl rfl rfl ?_)|(refine yW ?_;refine xX tok rfl rfl rfl rfl rfl rfl rfl (yY _ _ (λ_=>rfl)) rfl rfl rfl zB rfl ?_)|refine uM ?_)|(first|refine xM ?_|refine xB ?_|refine wU rfl ?_|refine zV rfl ?_|refine zQ rfl ?_|refine xF rfl (λhc=>?_) (λhc=>?_)|refine yV ?_|refine yQ ?_|refine xC ?_|refine yN ?_))
  exact zJ [1014] rfl rfl rfl rfl
theorem ZO (y:Cy) (h:CyB y):zO 60 [qB y] [] (qB y) []:=by
 have k1:=ZK y.ds (by have:=h.d;omega);have k2:=ZL y.sg (by have:=h.g;omega);have k3:=ZM y.sv (by have:=h.s;omega);have k4:=ZN y.st (by have:=h.t;omega);have k5:=YL y.vw h.v h.vb;have hl1:=zA zK y.ds;have hl2:=zA vF y.sg;have hl3:=zA vC y.sv;have hl4:=zA iA y.st;have hd:=h.d;have hg:=h.g;have hs:=h.s;unfold qB YV;refine eM call60 λF hF=>?_
 refine zW k1 ?_;refine zP ((y.ds.map zK).length) [1011,1,2] [1,2] [1,2,12] [13,1,2,12] rfl (λi T U=>⟨(13,iA i)::T,(1011,.arr 17 (jC i (y.ds.map zK)) false)::U⟩) ?_;(conv=>whnf);refine⟨by rfl,?_,?_⟩
 ·intro i hi;have hi':i<y.ds.length:=by omega
  have hy:(jC i (y.ds.map zK))[i]? =some (zK (y.ds.getD i default)):=zN zK y.ds i hi';have e:=kO zK y.ds i hi';have c2:=cQ (y.ds.getD i default) (h.db _ aH);generalize (y.ds.getD i default)=t at *;generalize jC i (y.ds.map zK)=xs at *;generalize jC (i+1) (y.ds.map zK)=ys at *;subst e;refine zW c2 ?_;rfl
 ·(refine zW k2 ?_)
  refine zP ((y.sg.map vF).length) [1012,1,2,1011] [1,2,1011] [1,2,33] [34,1,2,33] rfl (λi T U=>⟨(34,iA i)::T,(1012,.arr 5 (jC i (y.sg.map vF)) false)::U⟩) ?_;(conv=>whnf);refine⟨by rfl,?_,?_⟩
  ·intro i hi;have hi':i<y.sg.length:=by omega
   have hy:(jC i (y.sg.map vF))[i]? =some (vF (y.sg.getD i default)):=zN vF y.sg i hi';have e:=kO vF y.sg i hi';have c2:=zDc (y.sg.getD i default) (by have:=h.gb (y.sg.getD i default) aH;omega) (by have:=h.gb (y.sg.getD i default) aH;omega);generalize (y.sg.getD i default)=t at *;generalize jC i (y.sg.map vF)=xs at *;generalize jC (i+1) (y.sg.map vF)=ys at *;subst e;refine zW c2 ?_;rfl
  ·(refine zW k3 ?_)
   refine zP ((y.sv.map vC).length) [1013,1,2,1011,1012] [1,2,1011,1012] [1,2,54] [55,1,2,54] rfl (λi T U=>⟨(55,iA i)::T,(1013,.arr 3 (jC i (y.sv.map vC)) false)::U⟩) ?_;(conv=>whnf);refine⟨by rfl,?_,?_⟩
   ·intro i hi;have hi':i<y.sv.length:=by omega
    have hy:(jC i (y.sv.map vC))[i]? =some (vC (y.sv.getD i default)):=zN vC y.sv i hi';have e:=kO vC y.sv i hi';have c2:=UV (y.sv.getD i default) ⟨by have:=h.sb (y.sv.getD i default) aH;omega⟩;generalize (y.sv.getD i default)=t at *;generalize jC i (y.sv.map vC)=xs at *;generalize jC (i+1) (y.sv.map vC)=ys at *;subst e;refine zW c2 ?_;rfl
   ·(refine xA (vD k4 k5) ?_)
    refine zI [] rfl rfl ?_ rfl
    show AV.agg [zD wC y.c.js,zD wN y.c.ags,iA y.c.per,iA y.c.cap,iA y.c.hold,iA y.c.lock,bA y.rf,iA y.now,.sl false ((y.ds.map zK).take (y.ds.map zK).length),.sl false ((y.sg.map vF).take (y.sg.map vF).length),.sl false ((y.sv.map vC).take (y.sv.map vC).length),.sl false ((y.st.map iA).take (y.st.map iA).length),zD vO y.vw]=_
    rw[zYv,zYv,zYv,zYv];rfl
theorem NR (y:Cy) (h:CyB y):zO 60 [qB y] [] (zKm y) (zKn y):=by
 have k1:=ZK y.ds (by have:=h.d;omega);have k2:=ZL y.sg (by have:=h.g;omega);have k3:=ZM y.sv (by have:=h.s;omega);have k4:=ZN y.st (by have:=h.t;omega);have k5:=YL y.vw h.v h.vb;have hl1:=zA zK y.ds;have hl2:=zA vF y.sg;have hl3:=zA vC y.sv;have hl4:=zA iA y.st;have hd:=h.d;have hg:=h.g;have hs:=h.s;unfold qB zKm YV zKn;refine eM call60 λF hF=>?_
 refine zW k1 ?_;refine zP ((y.ds.map zK).length) [1011,1,2] [1,2] [1,2,12] [13,1,2,12] rfl (λi T U=>⟨(13,iA i)::T,(1011,.arr 17 (jC i (y.ds.map zK)) false)::U⟩) ?_;(conv=>whnf);refine⟨by rfl,?_,?_⟩
 ·intro i hi;have hi':i<y.ds.length:=by omega
  have hy:(jC i (y.ds.map zK))[i]? =some (zK (y.ds.getD i default)):=zN zK y.ds i hi';have e:=kO zK y.ds i hi';have c2:=cQ (y.ds.getD i default) (h.db _ aH);generalize (y.ds.getD i default)=t at *;generalize jC i (y.ds.map zK)=xs at *;generalize jC (i+1) (y.ds.map zK)=ys at *;subst e;refine zW c2 ?_;rfl
 ·(refine zW k2 ?_)
  refine zP ((y.sg.map vF).length) [1012,1,2,1011] [1,2,1011] [1,2,33] [34,1,2,33] rfl (λi T U=>⟨(34,iA i)::T,(1012,.arr 5 (jC i (y.sg.map vF)) false)::U⟩) ?_;(conv=>whnf);refine⟨by rfl,?_,?_⟩
  ·intro i hi;have hi':i<y.sg.length:=by omega
   have hy:(jC i (y.sg.map vF))[i]? =some (vF (y.sg.getD i default)):=zN vF y.sg i hi';have e:=kO vF y.sg i hi';have c2:=zDc (y.sg.getD i default) (by have:=h.gb (y.sg.getD i default) aH;omega) (by have:=h.gb (y.sg.getD i default) aH;omega);generalize (y.sg.getD i default)=t at *;generalize jC i (y.sg.map vF)=xs at *;generalize jC (i+1) (y.sg.map vF)=ys at *;subst e;refine zW c2 ?_;rfl
  ·(refine zW k3 ?_)
   refine zP ((y.sv.map vC).length) [1013,1,2,1011,1012] [1,2,1011,1012] [1,2,54] [55,1,2,54] rfl (λi T U=>⟨(55,iA i)::T,(1013,.arr 3 (jC i (y.sv.map vC)) false)::U⟩) ?_;(conv=>whnf);refine⟨by rfl,?_,?_⟩
   ·intro i hi;have hi':i<y.sv.length:=by omega
    have hy:(jC i (y.sv.map vC))[i]? =some (vC (y.sv.getD i default)):=zN vC y.sv i hi';have e:=kO vC y.sv i hi';have c2:=UV (y.sv.getD i default) ⟨by have:=h.sb (y.sv.getD i default) aH;omega⟩;generalize (y.sv.getD i default)=t at *;generalize jC i (y.sv.map vC)=xs at *;generalize jC (i+1) (y.sv.map vC)=ys at *;subst e;refine zW c2 ?_;rfl
   ·(refine xA (vD k4 k5) ?_)
    exact zJ [1011,1012,1013,1014] rfl rfl rfl rfl
theorem zPt (j:Jn) (h:j.ph.length<=8):zO 89 [wC j] [] (.agg [bA true,bA false,.ref 1021 0 (j.ph.map vE).length,.ref 1022 0 (j.ph.map vE).length]) [(1021,.arr 1 (List.replicate (j.ph.map vE).length (iA 0)) false),(1022,.arr 1 (List.replicate (j.ph.map vE).length (iA 0)) false)]:=by
 have hl:=zA vE j.ph;unfold wC zD;generalize j.ph.map vE=P at *;refine eM call89 λF hF=>?_
 (repeat' (first|refine qS ?_|refine xR (λhc=>?_) (λhc=>?_)|refine wE (λhc=>?_)|(refine zE ?_;first|(refine gT ?_;first|refine cI 1021 tok rfl rfl rfl rfl rfl rfl rfl rfl rfl rfl rfl rfl rfl zB zB rfl rfl rfl ?_|refine cI 1022 tok rfl rfl rfl rfl rfl rfl rfl rfl rfl rfl rfl rfl rfl zB zB rfl rfl rfl ?_))|fail))
 exact zJ [1021,1022] rfl rfl rfl rfl
def cnT (p:Ph) (l:Li):Int:=if l.lamp=1 then max (lnF p-1-l.tk) 0 else if l.lamp=2 then p.yel-1-l.tk else if l.lamp=3 then p.red-1-l.tk else 0
def coT (l:Li):Int:=if l.lamp=1∨l.lamp=2 then l.lamp else 0
theorem zKo (p:Ph) (h:PhB p) (l:Li) (ht: -1000000000000<=l.tk/\l.tk<=1000000000000) (hn: -1000<=lnF p/\lnF p<=1000) (hy: -1000<=p.yel/\p.yel<=1000) (hr: -1000<=p.red/\p.red<=1000):zO 146 [vE p,vM l] [] (iA (cnT p l)) []:=by
 have c:=zDi p h;unfold cnT;generalize lnF p=n at *;by_cases h1:l.lamp=1
 ·rw[zYp h1];refine eM call146 λF hF=>?_
  refine zW c ?_;exact zL
 rw[zYo h1];by_cases h2:l.lamp=2
 ·rw[zYp h2];refine eM call146 λF hF=>?_
  refine WW ?_;exact zL
 rw[zYo h2];by_cases h3:l.lamp=3
 ·rw[zYp h3];refine eM call146 λF hF=>?_
  refine WW ?_;exact zL
 ·rw[zYo h3];refine eM call146 λF hF=>?_
  refine WW ?_;exact zL
def HS (s:Sg) (n i:Nat):List Int:=ZU (λp _=>coT (vI s.c p)) (List.replicate n 0) i
def CH (j:Jn) (s:Sg) (n i:Nat):List Int:=ZU (λp _=>cnT (xI j p) (vI s.c p)) (List.replicate n 0) i
def CI (j:Jn) (s:Sg) (v:Sv):Vw:=if s.lat=true then vwZ j.ph.length else⟨false,v.ph != -1,HS s j.ph.length j.ph.length,CH j s j.ph.length j.ph.length⟩
theorem zYe (n:Nat):List.replicate n (iA 0)=(List.replicate n (0:Int)).map iA:=by simp
theorem zKp (j:Jn) (J:JV j) (s:Sg) (C:CV j s.c) (v:Sv):zO 93 [wC j,vF s,vC v] [] (vO (CI j s v)) []:=by
 have k:=zPt j J.n.2;have hl:=zA vE j.ph;have hn:=J.n;have hll:(s.c.li.map vM).length=j.ph.length:=by rw[zYq];exact C.n
 unfold CI;rw[zYe]at k;unfold vF vC
 cases hlat:s.lat with
 |true=>
  rw[zYp rfl];unfold wC at *;refine eM call93 λF hF=>?_
  refine zW k ?_;refine zI [] rfl rfl ?_ rfl
  show AV.agg [bA true,bA false,.sl false (List.take (j.ph.map vE).length ((List.replicate (j.ph.map vE).length (0:Int)).map iA)),.sl false (List.take (j.ph.map vE).length ((List.replicate (j.ph.map vE).length (0:Int)).map iA))]=_
  rw[zYy zU,hl];rfl
 | false=>
  rw[zYo zZb];have e1:(List.replicate (j.ph.map vE).length (0:Int)).map iA=(HS s j.ph.length 0).map iA:=by unfold HS;rw[jE,hl]
  have e2:(List.replicate (j.ph.map vE).length (0:Int)).map iA=(CH j s j.ph.length 0).map iA:=by unfold CH;rw[jE,hl]
  have k:zO 89 [wC j] [] (.agg [bA true,bA false,.ref 1021 0 (j.ph.map vE).length,.ref 1022 0 (j.ph.map vE).length]) [(1021,.arr 1 ((HS s j.ph.length 0).map iA) false),(1022,.arr 1 ((CH j s j.ph.length 0).map iA) false)]:=by rw[<-e1,<-e2];exact k
  clear e1 e2;have f1:∀i,((HS s j.ph.length i).map iA).length=j.ph.length:=λi=>by rw[zYq];unfold HS;rw[vG,zZ0]
  have f2:∀i,((CH j s j.ph.length i).map iA).length=j.ph.length:=λi=>by rw[zYq];unfold CH;rw[vG,zZ0]
  have g1:∀i,i<j.ph.length->(HS s j.ph.length (i+1)).map iA=((HS s j.ph.length i).map iA).set i (iA (coT (vI s.c i))):=λi hi=>by unfold HS;rw[qC _ _ _ _ (by rw[zZ0];exact hi)]
  have g2:∀i,i<j.ph.length->(CH j s j.ph.length (i+1)).map iA=((CH j s j.ph.length i).map iA).set i (iA (cnT (xI j i) (vI s.c i))):=λi hi=>by unfold CH;rw[qC _ _ _ _ (by rw[zZ0];exact hi)]
  unfold wC zD at *;refine eM call93 λF hF=>?_
  refine zW k ?_;refine zP ((j.ph.map vE).length) [1021,1022,4,6,7] [4,6,7] [4,6,7,22,23] [24,4,6,7,22,23] rfl (λi T U=>⟨(24,iA i)::T,(1021,.arr 1 ((HS s j.ph.length i).map iA) false)::(1022,.arr 1 ((CH j s j.ph.length i).map iA) false)::U⟩) ?_;(conv=>whnf);refine⟨by rfl,?_,?_⟩
  ·intro i hi;have hi':i<j.ph.length:=by omega
   have hy:(j.ph.map vE)[i]? =some (vE (xI j i)):=zN vE j.ph i hi';have hz:(s.c.li.map vM)[i]? =some (vM (vI s.c i)):=zN vM s.c.li i (by have:=C.n;omega);have ht:=J.ti i hi';have hv:=C.k i hi';have x1:=f1 i;have x2:=f2 i;have y1:=g1 i hi';have y2:=g2 i hi'
   have htk: -1000000000000<=(vI s.c i).tk/\(vI s.c i).tk<=1000000000000:=by
    unfold LD at hv
    repeat' split at hv
    all_goals (first|(rw[zYx]at hv;omega)|cases hv)
   have kc:=zKo (xI j i) ⟨zB,zB,zB,zB⟩ (vI s.c i) htk (by unfold lnF;omega) zB zB;rw[y1,y2];have a1:((HS s j.ph.length i).map iA)[i]? =some (iA ((HS s j.ph.length i).getD i default)):=zN iA _ i (by rw[zYq]at x1;omega);have a2:(((HS s j.ph.length i).map iA).set i (iA 0))[i]? =some (iA 0):=by rw[yAx,zYp rfl,zYp zB]
   have a3:((CH j s j.ph.length i).map iA)[i]? =some (iA ((CH j s j.ph.length i).getD i default)):=zN iA _ i (by rw[zYq]at x2;omega);clear y1 y2 g1 g2 f1 f2 k;generalize (HS s j.ph.length i).getD i default=v1 at *;generalize (CH j s j.ph.length i).getD i default=v2 at *;generalize cnT (xI j i) (vI s.c i)=cc at *;generalize (HS s j.ph.length i).map iA=A at *;generalize (CH j s j.ph.length i).map iA=B at *;generalize xI j i=p at *;unfold coT;generalize vI s.c i=l at *;obtain⟨lm,tk⟩:=l;dsimp only at *;by_cases h1:lm=1
   ·rw[zYp (.inl h1),<-yDl (a:=iA 0)];refine zW kc ?_;rfl
   by_cases h2:lm=2
   ·rw[zYp (.inr h2),<-yDl (a:=iA 0)];refine zW kc ?_;rfl
   ·rw[zYo (λh=>h.elim h1 h2)];refine zW kc ?_;rfl
  ·(refine WW ?_)
   refine zI [] rfl rfl ?_ rfl
   show AV.agg [bA false,bA (v.ph != -1),.sl false (List.take (j.ph.map vE).length ((HS s j.ph.length (j.ph.map vE).length).map iA)),.sl false (List.take (j.ph.map vE).length ((CH j s j.ph.length (j.ph.map vE).length).map iA))]=_
   rw[zYy (by rw[f1];omega),zYy (by rw[f2];omega),hl];rfl
theorem zRl (j:Jn) (J:JV j) (s:Sg) (v:Sv):BT (CI j s v):=by
 have hn:=J.n.2;unfold CI;split
 ·exact zXk hn
 ·refine⟨by show(HS _ _ _).length<=8;unfold HS;rw[vG,zZ0];exact hn,by show(CH _ _ _ _).length<=8;unfold CH;rw[vG,zZ0];exact hn,λx hx=>?_⟩;obtain⟨i,hi,rfl⟩:=yAz hx;have h1:=uV (λp (_:Int)=>coT (vI s.c p)) (List.replicate j.ph.length 0) j.ph.length i;unfold HS at hi⊢;rw[zZd hi]at h1;rw[vG]at hi;rw[zYp hi]at h1
  injection h1 with h1
  rw[h1];split
  ·unfold coT;split<;>omega
  ·rename_i hni;rw[zZ0]at hi;omega
theorem zKq (y:Int):0<=IntKind.u8.wrap y/\IntKind.u8.wrap y<256:=by
 unfold IntKind.wrap;simp[IntKind.signed,IntKind.bits];omega
theorem zPu (k:Int) (p:List Int) (k0:0<=k) (k1:k<=255) (hb:BY p) (hp:p.length<=200):∃q,BY q/\q.length=p.length+10/\zO 148 [iA k,zD yA p] [] (.tup [.ref 1031 0 (q.map yA).length,iA 0]) [(1031,.arr 1 (q.map yA) true)]:=by
 have hlp:=zA yA p;have hh:∀y,(p.map yA)[0]? =some y->y.cells.length=1:=yY _ _ (λ_=>rfl)
 have hu:IntKind.u8.wrap (uT (((p.map yA).length:Nat):Int) 8)=0:=by
  have:uT (((p.map yA).length:Nat):Int) 8=0:=by
   unfold uT;rw[zYq,yB9 _ xN]
   show(p.length:Int)/256=0
   omega
  rw[this];rfl
 have hdb:=zRo k0 k1 hb hp;have kc:=zVd (aL k p.length++p) (by unfold aL;simp;omega) hdb
 have kc:zO 183 [.sl false ((([AV.s (.int .u8 90),.s (.int .u8 165),.s (.int .u8 1),.s (.int .u8 k),.s (.int .u8 (IntKind.u8.wrap (uT (((p.map yA).length:Nat):Int) 8))),.s (.int .u8 (((p.map yA).length:Nat):Int))]++p.map yA).drop 2).take (([AV.s (.int .u8 90),.s (.int .u8 165),.s (.int .u8 1),.s (.int .u8 k),.s (.int .u8 (IntKind.u8.wrap (uT (((p.map yA).length:Nat):Int) 8))),.s (.int .u8 (((p.map yA).length:Nat):Int))]++p.map yA).length-2))] [] (uA (aK (aL k p.length++p))) []:=by
  rw[hu,zYq];rw[zYy zU];exact kc
 generalize aK (aL k p.length++p)=s at *;refine⟨90::165::(aL k p.length++p)++[IntKind.u8.wrap (s.fdiv (2 ^ (min (24:Int).toNat IntKind.u32.bits))),IntKind.u8.wrap (s.fdiv (2 ^ (min (16:Int).toNat IntKind.u32.bits))),IntKind.u8.wrap (s.fdiv (2 ^ (min (8:Int).toNat IntKind.u32.bits))),IntKind.u8.wrap s],?_,?_,?_⟩
 ·intro x hx
  rcases zZa.1 hx with hx|hx
  ·simp only[zZ5]at hx
   rcases hx with rfl|rfl|hx
   ·omega
   ·omega
   ·exact hdb x hx
  ·simp only[zZ5,yCt,yD5]at hx
   rcases hx with rfl|rfl|rfl|rfl<;>exact zKq _
 ·simp[aL]
 have hX:(90::165::(aL k p.length++p)++[IntKind.u8.wrap (s.fdiv (2 ^ (min (24:Int).toNat IntKind.u32.bits))),IntKind.u8.wrap (s.fdiv (2 ^ (min (16:Int).toNat IntKind.u32.bits))),IntKind.u8.wrap (s.fdiv (2 ^ (min (8:Int).toNat IntKind.u32.bits))),IntKind.u8.wrap s]).map yA=([AV.s (.int .u8 90),.s (.int .u8 165),.s (.int .u8 1),.s (.int .u8 k),.s (.int .u8 (IntKind.u8.wrap (uT (((p.map yA).length:Nat):Int) 8))),.s (.int .u8 (((p.map yA).length:Nat):Int))]++p.map yA)++[.s (.int .u8 (IntKind.u8.wrap (s.fdiv (2 ^ (min (24:Int).toNat IntKind.u32.bits))))),.s (.int .u8 (IntKind.u8.wrap (s.fdiv (2 ^ (min (16:Int).toNat IntKind.u32.bits))))),.s (.int .u8 (IntKind.u8.wrap (s.fdiv (2 ^ (min (8:Int).toNat IntKind.u32.bits))))),.s (.int .u8 (IntKind.u8.wrap s))]:=by
  rw[hu,zYq];simp only[aL,zYz,yAa,yA5,yBd,yA9,zZc];rfl
 rw[hX];refine eM call148 λF hF=>?_
 (have zc1:=kc;(repeat' (first|refine aT ?_|refine xR (λhc=>?_) (λhc=>?_)|refine wE (λhc=>?_)|(refine zE ?_;first|(refine yZ ?_;first|refine uF (nw:=[1031]) (yK tok 1031 (xs:=[_,_,_,_,_,_]) rfl rfl rfl rfl rfl rfl rfl rfl rfl) rfl rfl rfl ?_|refine kH tok rfl rfl ?_)|(refine qD ?_;refine gZ tok rfl rfl rfl rfl rfl rfl rfl zB (by simp<;>omega) rfl ?_))|refine SB ?_|fail))<;>clear zc1)
 exact zJ [1031] rfl rfl rfl rfl
theorem zKr (m:Ms) (h:MgP m):∃q,BY q/\q.length<=210/\zO 94 [yB m] [] (.tup [.ref 1031 0 (q.map yA).length,iA 0]) [(1031,.arr 1 (q.map yA) true)]:=by
 obtain⟨p,h1,h2,c1⟩:=zRw m h;have hk:=h.k;obtain⟨q,q1,q2,c2⟩:=zPu m.kind p zB zB h1 h2;refine⟨q,q1,zB,?_⟩;unfold yB at *;refine eM call94 λF hF=>?_
 refine xA (vD c1 c2) ?_;exact zJ [1031] rfl rfl rfl rfl
theorem CJ (m:Ms) (h:MgP m):∃q,BY q/\q.length<=210/\zO 45 [yB m] [] (.ref 1031 0 (q.map yA).length) [(1031,.arr 1 (q.map yA) true)]/\zO 45 [yB m] [] (zD yA q) []:=by
 obtain⟨q,q1,q2,c2⟩:=zKr m h;refine⟨q,q1,q2,?_,?_⟩
 ·unfold yB at *;refine eM call45 λF hF=>?_
  refine zW c2 ?_;exact zJ [1031] rfl rfl rfl rfl
 ·unfold yB at *;refine eM call45 λF hF=>?_
  refine zW c2 ?_;exact zI [] rfl rfl (zZl (AV.sl false) zYv) rfl
theorem CK (m:Ms) (h:MgP m):∃q,BY q/\q.length<=210/\zO 45 [yB m] [] (zD yA q) []:=by
 obtain⟨q,q1,q2,_,c2⟩:=CJ m h;exact⟨q,q1,q2,c2⟩
def gJ (l:List Ag):Nat->Int
 |0=>0
 |i+1=>gJ l i+(l.getD i default).ses
def MB (l:List Ag):Prop:=l.length<=4/\∀a∈l,1<=a.ses/\a.ses<=2
theorem MB.at {l:List Ag} (h:MB l) {i:Nat} (hi:i<l.length):1<=(l.getD i default).ses/\(l.getD i default).ses<=2:=by
 refine h.2 _ ?_;rw[zY0,zZd hi];exact yBm _
theorem jR {l:List Ag} (h:MB l):∀i,i<=l.length->(i:Int)<=gJ l i/\gJ l i<=2*i
 |0,_=>⟨yAu _,yAu _⟩
 |i+1,hi=>by
  have h1:=jR h i zB;have h2:=h.at (i:=i) zB;unfold gJ;omega
theorem zPv (c:Cf) (h:MB c.ags):zO 42 [wJ c] [] (iA (gJ c.ags c.ags.length)) []:=by
 have hal:=zA wN c.ags;have hn:=h.1;unfold wJ zD;refine eM call42 λF hF=>?_
 refine WW ?_;refine zP ((c.ags.map wN).length) [] [] [7,8] [3,9,7,8] rfl (λi T U=>⟨(3,iA (gJ c.ags i))::(9,iA i)::T,U⟩) ?_;(conv=>whnf);refine⟨by rfl,?_,?_⟩
 ·intro i hi;have hy:=zN wN c.ags i zB;have h2:=h.at (i:=i) zB;have hb:=jR h i zB;rw[show gJ c.ags (i+1)=gJ c.ags i+(c.ags.getD i default).ses from rfl];generalize gJ c.ags i=z at *;generalize c.ags.getD i default=a at *;refine WW ?_;rfl
 ·rw[hal];refine WW ?_;exact zL
def BQ (l:List Ag) (g:Int):Nat->Int
 |0=>0
 |i+1=>if(i:Int)<g then BQ l g i+(l.getD i default).ses else BQ l g i
theorem zA9 {l:List Ag} (h:MB l) (g:Int):∀i,i<=l.length->0<=BQ l g i/\BQ l g i<=2*i
 |0,_=>⟨yAu _,yAu _⟩
 |i+1,hi=>by
  have h1:=zA9 h g i zB;have h2:=h.at (i:=i) zB;unfold BQ
  split<;>omega
theorem zPw (c:Cf) (h:MB c.ags) (g:Int):zO 44 [wJ c,iA g] [] (iA (BQ c.ags g c.ags.length)) []:=by
 have hal:=zA wN c.ags;have hn:=h.1;unfold wJ zD;refine eM call44 λF hF=>?_
 refine WW ?_;refine zP ((c.ags.map wN).length) [] [] [1,9,10] [5,11,1,9,10] rfl (λi T U=>⟨(5,iA (BQ c.ags g i))::(11,iA i)::T,U⟩) ?_;(conv=>whnf);refine⟨by rfl,?_,?_⟩
 ·intro i hi;have hy:=zN wN c.ags i zB;have h2:=h.at (i:=i) zB;have hb:=zA9 h g i zB;by_cases hg:(i:Int)<g
  ·rw[show BQ c.ags g (i+1)=BQ c.ags g i+(c.ags.getD i default).ses from zYp hg];generalize BQ c.ags g i=z at *;generalize c.ags.getD i default=a at *;refine WW ?_;rfl
  ·rw[show BQ c.ags g (i+1)=BQ c.ags g i from zYo hg];generalize BQ c.ags g i=z at *;generalize c.ags.getD i default=a at *;refine WW ?_;rfl
 ·rw[hal];refine WW ?_;exact zL
def CM:List Ag->Int->Nat->Option (Nat×Int)
 | [],_,_=>none
 |a::l,s,i=>if s<a.ses then some (i,s)else CM l (s-a.ses) (i+1)
theorem zPx (l:List Ag) (s:Int) (i:Nat) (h:i<l.length):CM (l.drop i) s i=if s<(l.getD i default).ses then some (i,s)else CM (l.drop (i+1)) (s-(l.getD i default).ses) (i+1):=by
 have e:l.getD i default=l[i]:=by simp[List.getD,h]
 rw[<-List.getElem_cons_drop h,e];rfl
def zBa (l:List Ag) (s:Int):Int:=match CM l s 0 with
 |some p=>p.1
 |none=>0
theorem zDd:∀(l:List Ag) (s:Int) (i:Nat) (p:Nat×Int),CM l s i=some p->p.1<i+l.length
 | [],_,_,_,h=>by cases h
 |a::l,s,i,p,h=>by
  unfold CM at h;split at h
  ·cases h;simp only[zY2];omega
  ·have:=zDd l _ _ p h;simp only[zY2];omega
theorem zUr {l:List Ag} (h:MB l) (s:Int):0<=zBa l s/\zBa l s<4:=by
 unfold zBa;split
 ·rename_i p hp;have:=zDd l s 0 p hp;have:=h.1;omega
 ·omega
theorem zKs (c:Cf) (h:MB c.ags) (s:Int) (s0: -1000<=s) (s1:s<=1000):zO 49 [wJ c,iA s] [] (iA (zBa c.ags s)) []:=by
 have hal:=zA wN c.ags;have hn:=h.1;unfold zBa wJ zD;refine eM call49 λF hF=>?_
 refine WW ?_;refine xV ((c.ags.map wN).length) [] [] [8,9] [1,10,8,9] rfl (λi T U zs=>∃(z:Int),(CM c.ags s 0=CM (c.ags.drop i) z i/\ -1000-2*(i:Int)<=z/\z<=1000)/\zs=⟨(1,iA z)::(10,iA i)::T,U⟩) ?_;(conv=>whnf);refine⟨?_,?_,?_⟩
 ·exact⟨s,⟨rfl,zB,zB⟩,rfl⟩
 ·rintro i st hi ⟨z,⟨hz,z0,z1⟩,rfl⟩;have hy:=zN wN c.ags i zB;have h2:=h.at (i:=i) zB;rw[zPx c.ags z i zB]at hz;generalize hD:c.ags.drop (i+1)=D at *;generalize c.ags.getD i default=a at *;by_cases ha:z<a.ses
  ·rw[zYp ha]at hz;rw[hz];refine WW ?_;exact zL
  ·rw[zYo ha]at hz;refine WW ?_;exact⟨_,⟨hz,zB,zB⟩,rfl⟩
 ·rintro st ⟨z,⟨hz,z0,z1⟩,rfl⟩;rw[hal,yCi]at hz;rw[hz];refine WW ?_;exact zL
structure ZP (e:Ev):Prop where
 k:1<=e.k/\e.k<=6
 s:0<=e.s/\e.s<=100
 a:0<=e.a/\e.a<=100
 b:0<=e.b/\e.b<=100
 y:BY e.y
 n:e.y.length<=1000
theorem evb {k s a b:Int} {y:List Int} (hk:1<=k/\k<=6) (hs:0<=s/\s<=100) (ha:0<=a/\a<=100) (hb:0<=b/\b<=100) (hy:BY y) (hn:y.length<=1000):ZP ⟨k,s,a,b,y⟩:=⟨hk,hs,ha,hb,hy,hn⟩
theorem kF:BY []:=λx hx=>by cases hx
theorem zUs (c:Cf) (s:Int) (s0:0<=s) (s1:s<=100) (cm:Bool) (d:Dk):∃(e:Ev) (d':Dk),ZP e/\rem d'<=rem d/\zO 47 [.ptr 1000 0 0,wJ c,iA s,bA cm] [(1000,cG d)] (wT e) [(1000,cG d')]:=by
 have k1:=yJ d 6 zB zB;have b1:=yD d 6 zB;have r1:=wP d;generalize nx d 6=k at *;generalize ad d=d1 at *;unfold wT zD;by_cases h0:k=0
 ·refine⟨⟨2,s,0,0,[]⟩,d1,evb zB zB zB zB kF zU,r1,?_⟩;refine eM call47 λF hF=>?_
  refine zW k1 ?_;exact zI [1000] rfl rfl rfl rfl
 by_cases h1:k=1
 ·refine⟨⟨1,s,0,0,[]⟩,d1,evb zB zB zB zB kF zU,r1,?_⟩;refine eM call47 λF hF=>?_
  refine zW k1 ?_;exact zI [1000] rfl rfl rfl rfl
 by_cases h2:k=2
 ·have k2:=yJ d1 4 zB zB;have b2:=yD d1 4 zB;have r2:=wP d1;have k3:=yJ (ad d1) 50 zB zB;have b3:=yD (ad d1) 50 zB;have r3:=wP (ad d1);have k4:=eX (nx (ad d1) 50);refine⟨⟨4,0,nx d1 4,0,dS (nx (ad d1) 50)⟩,ad (ad d1),evb zB zB zB zB (ZX _) (by rw[jG];omega),zB,?_⟩;generalize nx (ad d1) 50=q at *;generalize nx d1 4=p at *;generalize dS q=y at *;refine eM call47 λF hF=>?_
  refine xA (aG k1 k2 k3 k4) ?_;exact zI [1000] rfl rfl rfl rfl
 cases cm with
 |true=>
  refine⟨⟨6,0,0,0,[]⟩,d1,evb zB zB zB zB kF zU,r1,?_⟩;refine eM call47 λF hF=>?_
  refine zW k1 ?_;exact zI [1000] rfl rfl rfl rfl
 |false=>
 by_cases h3:k=3
 ·have k2:=yJ d1 3 zB zB;have b2:=yD d1 3 zB;have r2:=wP d1;have k3:=yJ (ad d1) 9 zB zB;have b3:=yD (ad d1) 9 zB;have r3:=wP (ad d1);refine⟨⟨5,0,nx d1 3,nx (ad d1) 9,[]⟩,ad (ad d1),evb zB zB zB zB kF zU,zB,?_⟩;generalize nx (ad d1) 9=q at *;generalize nx d1 3=p at *;refine eM call47 λF hF=>?_
  refine xA (gK k1 k2 k3) ?_;exact zI [1000] rfl rfl rfl rfl
 by_cases h4:k=4
 ·have k2:=yJ d1 120 zB zB;have b2:=yD d1 120 zB;have r2:=wP d1;refine⟨⟨3,s,0,0,List.replicate (150+nx d1 120).toNat 0⟩,ad d1,evb zB zB zB zB (λx hx=>by have:=(yCy.1 hx).2;omega) (by rw[zZ0];omega),zB,?_⟩;generalize nx d1 120=q at *;refine eM call47 λF hF=>?_
  have hnx:150+q=(((150+q).toNat:Nat):Int):=by omega
  (have zc1:=k1;have zc2:=k2;(repeat' (first|refine qS ?_|refine xR (λhc=>?_) (λhc=>?_)|refine wE (λhc=>?_)|(refine zE ?_;first|(refine gT ?_;refine zBz tok rfl rfl rfl rfl rfl rfl rfl rfl rfl rfl rfl rfl hnx zB zB rfl rfl rfl ?_))|fail))<;>clear zc1 zc2)
  have e:List.take (150+q).toNat (List.drop 0 (List.replicate (150+q).toNat (yA 0)))=(List.replicate (150+q).toNat 0).map yA:=by rw[zZv,zYy zU,yCd]
  exact zI [1000] rfl rfl (zZl (λz=>AV.agg [iA 3,iA s,iA 0,iA 0,.sl false z]) e) rfl
 ·have k2:=zFs d1 9 zB zB;have b2:=yD d1 (9+1) zB;obtain⟨p1,p2,p3⟩:=BW (ad d1) (nx d1 (9+1)).toNat;have r2:=wP d1;refine⟨⟨3,s,0,0,(fE (ad d1) (nx d1 (9+1)).toNat).1⟩,(fE (ad d1) (nx d1 (9+1)).toNat).2,evb zB zB zB zB p3 zB,zB,?_⟩;generalize (fE (ad d1) (nx d1 (9+1)).toNat).1=y at *;generalize (fE (ad d1) (nx d1 (9+1)).toNat).2=d2 at *;refine eM call47 λF hF=>?_
  refine xA (vD k1 k2) ?_;exact zI [1000] rfl rfl rfl rfl
def KM (l:List Ev) (n:Nat):Prop:=l.length<=n/\∀e∈l,ZP e
theorem KM.nil:KM [] 0:=⟨zYs _,λe h=>by cases h⟩
theorem KM.app {l:List Ev} {n:Nat} (h:KM l n) {e:Ev} (he:ZP e):KM (l++[e]) (n+1):=
 ⟨by have:=h.1;rw[zYr,yA8];omega,λx hx=>(zZa.1 hx).elim (h.2 x) λhx=>by rw[zZu.1 hx];exact he⟩
theorem KM.le {l:List Ev} {n m:Nat} (h:KM l n) (hm:n<=m):KM l m:=⟨zZy h.1 hm,h.2⟩
theorem zUt (g v:Int) (hg:0<=g/\g<256) (hv:0<=v/\v<=100):MgP ⟨4,g::0::dS (1000+g),[v,v.tmod 2],[]⟩:=by
 have h1:=yEh 2 hv.1;have h2:v.tmod 2<2:=yD7 v zB;exact⟨JR hg zB (ZX _),by simp[jG],by dsimp only;omega,.cons zB (.cons zB .nil),⟨0,zB,λh=>absurd rfl h,rfl⟩,rfl⟩
end Av
end Go.Proofs.YtmamjhmoegjapaaGreat
