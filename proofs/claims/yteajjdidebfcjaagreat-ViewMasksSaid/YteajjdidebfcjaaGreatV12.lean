/- Part 12. -/
import Derived.Test.YteajjdidebfcjaaGreatV11
namespace Go.Proofs.YteajjdidebfcjaaGreat
namespace Av
open Tryz
set_option linter.all false
set_option maxRecDepth 4000
set_option maxHeartbeats 4000000
def zUc {l:List Tk} (h:MY l=true):GJ l/\l.length=8:=by
 rw[zKh]at h;have T:=(zTy l).1 h;refine⟨⟨by have:=T.n;omega,λt ht=>?_⟩,T.n⟩;obtain⟨i,hi,rfl⟩:=yAf ht;have hi8:i<8:=by have:=T.n;omega
 have e:l.getD i default=l[i]:=by simp[List.getD,hi]
 cases hu:(l.getD i default).used with
 |false=>
  have:=T.f i hi8 hu;unfold CG at this;rw[zX9]at this;rw[<-e];omega
 |true=>
  have:=(T.s i hi8 hu).1;unfold soF zKa at this;simp only[zYg,zX9]at this;rw[<-e];omega
def zUd {l:List Tk} (hb:GJ l) (k:Nat) (e:Int) (t:Tk) (ht:t.sec.length<=1000000):GJ (GO l k e t):=by
 unfold GO;split
 ·refine⟨by rw[zZx];exact hb.n,λx hx=>?_⟩
  rcases yAv hx with h|rfl
  ·exact hb.s x h
  ·exact ht
 ·exact XJ
structure GvB (r:Rg):Prop where
 num:0<=r.num/\r.num<4
 b:ER r
 tv:MY r.tk=true
 n8:r.tk.length=8
 lim:(r.ag.lim.length:Int)=4
 cls:0<=r.ag.cls/\r.ag.cls<=3
 vl:r.vh.length<=8
def zKx {r:Rg} (h:gvF r=true):GvB r:=by
 unfold gvF at h;simp only[zYg,zX9]at h;obtain⟨h1,h2,h3,h4,h5,h6⟩:=h;obtain⟨t1,t2⟩:=zUc h3;have hv:=(zQ7.1 h4).1;unfold avF at h2;simp only[zYg,zX9]at h2;obtain⟨⟨a1,a2⟩,a3,a4,a5,a6⟩:=h2;unfold gH at a5;rw[zX9]at a5;exact⟨h1,⟨t1,zB,zB,zB⟩,h3,t2,a2,a5,hv⟩
def rg0:Rg:=⟨0,⟨[],0,0,[],0,0,0,0⟩,[],[],⟨0,0,0⟩⟩
def PM:Ms:=⟨0,[],[],[]⟩
def doR (e:Int):AV:= .tup [qW rg0,yF PM,bA false,iA e]
def zWn:ER rg0:=⟨XJ,zYl _,zYl _,zYl _⟩
def bN (e:Int):doR e= .tup [.agg [iA 0,.sl false [],iA 0,iA 0,.sl false [],iA 0,iA 0,iA 0,iA 0,.sl false [],.sl false [],iA 0,iA 0,iA 0],.agg [iA 0,.sl false [],.sl false [],.sl false []],bA false,iA e]:=rfl
def VO (r:Rg) (m:Ms) (s now:Int) (sec:List Int) (gv b us:Bool) (c1:zO 235 [qW r] [] (bA gv) []) (c2:zO 195 [yF m] [] (bA b) []) (c3:zO 236 [zD yY r.tk,iA s] [] (bA us) []) (h:gv=false∨b=false∨us=false∨(¬(sec.length:Int)=0/\¬(sec.length:Int)=8)) (hsl:sec.length<=1000):
  zO 220 [qW r,yF m,iA s,iA now,zD yA sec] [] (doR 1) []:=by
 rw[bN];have hls:=zA yA sec;cases gv
 ·(refine eM call220 λF hF=>?_)
  refine zY c1 ?_;exact zJ
 cases b
 ·(refine eM call220 λF hF=>?_)
  refine yR (wZ c1 c2) ?_;exact zJ
 cases us
 ·(refine eM call220 λF hF=>?_)
  refine yR (fQ c1 c2 c3) ?_;exact zJ
 ·rcases h with h|h|h|⟨h1,h2⟩
  ·cases h
  ·cases h
  ·cases h
  ·(refine eM call220 λF hF=>?_)
   refine yR (fQ c1 c2 c3) ?_;exact zJ
def zKy (r:Rg) (m:Ms) (s now:Int) (sec:List Int) (c1:yV [qW r] [] (bA false) []):
 yV [qW r,yF m,iA s,iA now,zD yA sec] [] (doR 1) []:=yI
def zKz (r:Rg) (m:Ms) (s now:Int) (sec:List Int) (c1:yV [qW r] [] (bA true) []) (h2:¬m.kind=2) (h3:¬m.kind=3) (h4:¬m.kind=4) (h5:¬m.kind=5):
 yV [qW r,yF m,iA s,iA now,zD yA sec] [] (doR 1) []:=yI
def NP (r:Rg) (m:Ms) (s now:Int) (sec:List Int) (n8:r.tk.length=8) (b:Bool) (c1:yV [qW r] [] (bA true) []) (c2:zO 98 [yF m] [] (bA b) []) (hk:m.kind=2∨m.kind=3∨m.kind=4∨m.kind=5)
 (h:b=false∨dW r.tk s=false∨(¬(sec.length:Int)=0/\¬(sec.length:Int)=8)) (hsl:sec.length<=1000):yV [qW r,yF m,iA s,iA now,zD yA sec] [] (doR 1) []:=yI
def zBf (k a:Int):yV [iA k,iA a] [] (yF ⟨14,[],[k,a],[]⟩) []:=yI
def rgV (r:Rg) (l:List Vh):Rg:=⟨r.num,r.ag,r.tk,l,r.bk⟩
def DoP (r:Rg) (m:Ms) (sec:List Int) (r':Rg) (p:Ms) (u:Bool) (e:Int):Prop:=
 (e≠0->u=false/\0<=e/\e<=100)/\(e=0->(∃o,o.length=8/\T0K r.tk o/\r'=rgT r o/\((u=false/\p=⟨14,[],[3,m.args.getD 0 0],[]⟩/\m.kind=3)∨(u=true/\sec.length=8/\m.kind=2/\∃k:Nat,k<8/\p=⟨16,[],[(k:Int)],r.num::(k:Int)::sec⟩)))∨
  (∃o,o.length<=8/\r'=rgV r o/\u=false/\(m.kind=4∨m.kind=5)/\p=⟨14,[],[m.kind,m.args.getD 0 0],[]⟩))
def VP (r:Rg) (m:Ms) (s now:Int) (sec:List Int):Prop:=∃(r':Rg) (p:Ms) (u:Bool) (e:Int),ER r'/\MsB p/\DoP r m sec r' p u e/\
 zO 220 [qW r,yF m,iA s,iA now,zD yA sec] [] (.tup [qW r',yF p,bA u,iA e]) []/\
 yV [qW r,yF m,iA s,iA now,zD yA sec] [] (.tup [qW r',yF p,bA u,iA e]) []
def zWo:MsB PM:=⟨zYl _,zYl _,zYl _⟩
theorem VP.bad {r:Rg} {m:Ms} {s now:Int} {sec:List Int} (e:Int) (he:e≠0) (h1:zO 220 [qW r,yF m,iA s,iA now,zD yA sec] [] (doR e) []) (h2:yV [qW r,yF m,iA s,iA now,zD yA sec] [] (doR e) []) (hb:0<=e/\e<=100:=by omega):VP r m s now sec:=
 ⟨rg0,PM,false,e,zWn,zWo,⟨λ_=>⟨rfl,hb⟩,λh=>absurd h he⟩,h1,h2⟩
def do3 (r:Rg) (hgv:gvF r=true) (tkn:List Int) (a s now:Int) (sec:List Int) (hu:dW r.tk s=true) (hs:(sec.length:Int)=0∨(sec.length:Int)=8)
  (m1:zO 195 [yF ⟨3,tkn,[a],[]⟩] [] (bA true) []) (m2:zO 98 [yF ⟨3,tkn,[a],[]⟩] [] (bA true) []):VP r ⟨3,tkn,[a],[]⟩ s now sec:=by
 have H:=zKx hgv;have c1:=YP r XX;have k1:=aD r XX;rw[hgv]at c1 k1;have c3:=TU r.tk s;rw[hu]at c3;have c4:=cE r H.b;have k4:=PJ r H.b;have c6:=zQ9 ⟨3,tkn,[a],[]⟩ a Z;have k6:=zBf 3 a;rw[show yF ⟨14,[],[(⟨3,tkn,[a],[]⟩:Ms).kind,a],[]⟩= .agg [iA 14,.sl false [],.sl false [iA 3,iA a],.sl false []]from Z]at c6;rw[show yF ⟨14,[],[3,a],[]⟩= .agg [iA 14,.sl false [],.sl false [iA 3,iA a],.sl false []]from Z]at k6;obtain⟨o,e,_,ho,ho8,c5,k5⟩:=CY r.tk H.b.tk a;have hls:=zA yA sec;have hlt:=zA yY r.tk;have hl1:([a].map iA).length=1:=rfl
 have hU:(r.tk.getD s.toNat default).used=true/\0<=s/\s<8:=by
  unfold dW at hu;rw[zYg,zX9]at hu;exact⟨hu.2,hu.1.1,by have:=H.n8;omega⟩
 have hn8:=H.n8;have hy:=yN yY r.tk s hU.2.1 zB;have hbR:ER (rgT r o):=⟨ho,H.b.s,H.b.l,H.b.v⟩;obtain⟨hU,hs0,hs8⟩:=hU;clear hu H hgv;generalize r.tk.getD s.toNat default=x at *;obtain⟨xu,x1,x2,x3,x4,x5⟩:=x;dsimp only at hU;subst hU;rw[show yY ⟨true,x1,x2,x3,x4,x5⟩= .agg [bA true,zD yA x1,iA x2,iA x3,iA x4,iA x5]from Z]at hy;by_cases he:e=0
 ·subst he;refine⟨rgT r o,⟨14,[],[3,a],[]⟩,false,0,hbR,⟨zYl _,by simp,zYl _⟩,⟨λh=>absurd Z h,λ_=> .inl ⟨o,by rw[(ho8 Z).1,hn8],(ho8 Z).2,rfl,.inl ⟨rfl,rfl,rfl⟩⟩⟩,?_,?_⟩
  ·rw[show yF ⟨14,[],[3,a],[]⟩= .agg [iA 14,.sl false [],.sl false [iA 3,iA a],.sl false []]from Z]
   rcases hs with hs|hs
   all_goals
    refine eM call220 λF hF=>?_
    refine yR (zt6 c1 m1 c3 c4 c5 c6) ?_;exact zJ
  ·rw[show yF ⟨14,[],[3,a],[]⟩= .agg [iA 14,.sl false [],.sl false [iA 3,iA a],.sl false []]from Z]
   rcases hs with hs|hs
   all_goals
    exact yI
 ·refine .bad e he ?_ ?_
  ·rw[bN]
   rcases hs with hs|hs
   all_goals
    refine eM call220 λF hF=>?_
    refine yR (zt6 c1 m1 c3 c4 c5 c6) ?_;exact zJ
  ·rw[bN]
   rcases hs with hs|hs
   all_goals
    exact yI
def do5 (r:Rg) (hgv:gvF r=true) (tkn:List Int) (a s now:Int) (sec:List Int) (hu:dW r.tk s=true) (hs:(sec.length:Int)=0∨(sec.length:Int)=8)
  (m1:zO 195 [yF ⟨5,tkn,[a],[]⟩] [] (bA true) []) (m2:zO 98 [yF ⟨5,tkn,[a],[]⟩] [] (bA true) []):VP r ⟨5,tkn,[a],[]⟩ s now sec:=by
 have H:=zKx hgv;have c1:=YP r XX;have k1:=aD r XX;rw[hgv]at c1 k1;have c3:=TU r.tk s;rw[hu]at c3;have c4:=cE r H.b;have k4:=PJ r H.b;have c6:=zQ9 ⟨5,tkn,[a],[]⟩ a Z;have k6:=zBf 5 a;rw[show yF ⟨14,[],[(⟨5,tkn,[a],[]⟩:Ms).kind,a],[]⟩= .agg [iA 14,.sl false [],.sl false [iA 5,iA a],.sl false []]from Z]at c6;rw[show yF ⟨14,[],[5,a],[]⟩= .agg [iA 14,.sl false [],.sl false [iA 5,iA a],.sl false []]from Z]at k6;obtain⟨o,e,⟨heb,_⟩,ho,c5,k5⟩:=CW r.vh XX a;have hls:=zA yA sec;have hlt:=zA yY r.tk;have hl1:([a].map iA).length=1:=rfl
 have hU:(r.tk.getD s.toNat default).used=true/\0<=s/\s<8:=by
  unfold dW at hu;rw[zYg,zX9]at hu;exact⟨hu.2,hu.1.1,by have:=H.n8;omega⟩
 have hn8:=H.n8;have hy:=yN yY r.tk s hU.2.1 zB;have ho9:o.length<=8:=by have:=H.vl;omega
 have hbR:ER (rgV r o):=⟨H.b.tk,H.b.s,H.b.l,by have:=H.vl;show o.length<=_;omega⟩;obtain⟨hU,hs0,hs8⟩:=hU;clear hu H hgv;generalize r.tk.getD s.toNat default=x at *;obtain⟨xu,x1,x2,x3,x4,x5⟩:=x;dsimp only at hU;subst hU;rw[show yY ⟨true,x1,x2,x3,x4,x5⟩= .agg [bA true,zD yA x1,iA x2,iA x3,iA x4,iA x5]from Z]at hy;by_cases he:e=0
 ·subst he;refine⟨rgV r o,⟨14,[],[5,a],[]⟩,false,0,hbR,⟨zYl _,by simp,zYl _⟩,⟨λh=>absurd Z h,λ_=> .inr ⟨o,ho9,rfl,rfl,.inr Z,rfl⟩⟩,?_,?_⟩
  ·rw[show yF ⟨14,[],[5,a],[]⟩= .agg [iA 14,.sl false [],.sl false [iA 5,iA a],.sl false []]from Z]
   rcases hs with hs|hs
   all_goals
    refine eM call220 λF hF=>?_
    refine yR (zt6 c1 m1 c3 c4 c5 c6) ?_;exact zJ
  ·rw[show yF ⟨14,[],[5,a],[]⟩= .agg [iA 14,.sl false [],.sl false [iA 5,iA a],.sl false []]from Z]
   rcases hs with hs|hs
   all_goals
    exact yI
 ·refine .bad e he ?_ ?_
  ·rw[bN]
   rcases hs with hs|hs
   all_goals
    refine eM call220 λF hF=>?_
    refine yR (zt6 c1 m1 c3 c4 c5 c6) ?_;exact zJ
  ·rw[bN]
   rcases hs with hs|hs
   all_goals
    exact yI
def CN (r:Rg) (a b s:Int) (n8:r.tk.length=8) (h0:0<=s) (h8:s<8) (o:List Vh) (e:Int) (c:zO 268 [zD vY r.vh,vU (agC r.ag (min r.ag.cls (r.tk.getD s.toNat default).cls)),vY ⟨a,b⟩] [] (.tup [zD vY o,iA e]) []):
  zO 240 [qW r,zD iA [a,b],iA s] [] (.tup [zD vY o,iA e]) []:=by
 have hlt:=zA yY r.tk;have hl1:([a,b].map iA).length=2:=rfl;have hy:=yN yY r.tk s h0 zB;generalize r.tk.getD s.toNat default=x at *;obtain⟨xu,x1,x2,x3,x4,x5⟩:=x;rw[show yY ⟨xu,x1,x2,x3,x4,x5⟩= .agg [bA xu,zD yA x1,iA x2,iA x3,iA x4,iA x5]from Z]at hy;rw[show(⟨xu,x1,x2,x3,x4,x5⟩:Tk).cls=x4 from Z]at c;have hAG:vU (agC r.ag (min r.ag.cls x4))= .agg [zD yA r.ag.sec,iA r.ag.rights,iA (min r.ag.cls x4),zD iA r.ag.lim,iA r.ag.req,iA r.ag.ses,iA r.ag.rate,iA r.ag.burst]:=rfl;rw[hAG]at c;rw[show vY ⟨a,b⟩= .agg [iA a,iA b]from Z]at c;refine eM call240 λF hF=>?_
 refine zY c ?_;exact zJ
def do4 (r:Rg) (hgv:gvF r=true) (tkn:List Int) (a b s now:Int) (sec:List Int) (hu:dW r.tk s=true) (hs:(sec.length:Int)=0∨(sec.length:Int)=8)
  (m1:zO 195 [yF ⟨4,tkn,[a,b],[]⟩] [] (bA true) []) (m2:zO 98 [yF ⟨4,tkn,[a,b],[]⟩] [] (bA true) []):VP r ⟨4,tkn,[a,b],[]⟩ s now sec:=by
 have H:=zKx hgv;have c1:=YP r XX;have k1:=aD r XX;rw[hgv]at c1 k1;have c3:=TU r.tk s;rw[hu]at c3;have c4:=cE r H.b;have k4:=PJ r H.b
 have c6:zO 239 [yF ⟨4,tkn,[a,b],[]⟩] [] (yF ⟨14,[],[4,a],[]⟩) []:=by
  have hl1:([a,b].map iA).length=2:=rfl;refine eM call239 λF hF=>?_
  refine WL ?_;exact zJ
 have k6:=zBf 4 a;rw[show yF ⟨14,[],[4,a],[]⟩= .agg [iA 14,.sl false [],.sl false [iA 4,iA a],.sl false []]from Z]at c6 k6;obtain⟨o,e,⟨heb,_⟩,⟨ho,ho8⟩,cv,k5⟩:=LA r.vh XX r.ag (r.tk.getD s.toNat default).cls H.lim H.cls.2 ⟨a,b⟩;have hls:=zA yA sec;have hlt:=zA yY r.tk;have hl1:([a,b].map iA).length=2:=rfl
 have hU:(r.tk.getD s.toNat default).used=true/\0<=s/\s<8:=by
  unfold dW at hu;rw[zYg,zX9]at hu;exact⟨hu.2,hu.1.1,by have:=H.n8;omega⟩
 have hn8:=H.n8;have hy:=yN yY r.tk s hU.2.1 zB;have ho9:o.length<=8:=by have:=H.vl;omega
 have hbR:ER (rgV r o):=⟨H.b.tk,H.b.s,H.b.l,by have:=H.vl;show o.length<=_;omega⟩;obtain⟨hU,hs0,hs8⟩:=hU;have c5:=CN r a b s hn8 hs0 hs8 o e cv;clear hu H hgv cv;generalize r.tk.getD s.toNat default=x at *;obtain⟨xu,x1,x2,x3,x4,x5⟩:=x;dsimp only at hU;subst hU;rw[show yY ⟨true,x1,x2,x3,x4,x5⟩= .agg [bA true,zD yA x1,iA x2,iA x3,iA x4,iA x5]from Z]at hy;rw[show(⟨true,x1,x2,x3,x4,x5⟩:Tk).cls=x4 from Z,show vY ⟨a,b⟩= .agg [iA a,iA b]from Z,show vU r.ag= .agg [zD yA r.ag.sec,iA r.ag.rights,iA r.ag.cls,zD iA r.ag.lim,iA r.ag.req,iA r.ag.ses,iA r.ag.rate,iA r.ag.burst]from Z]at k5;by_cases he:e=0
 ·subst he;refine⟨rgV r o,⟨14,[],[4,a],[]⟩,false,0,hbR,⟨zYl _,by simp,zYl _⟩,⟨λh=>absurd Z h,λ_=> .inr ⟨o,ho9,rfl,rfl,.inl Z,rfl⟩⟩,?_,?_⟩
  ·rw[show yF ⟨14,[],[4,a],[]⟩= .agg [iA 14,.sl false [],.sl false [iA 4,iA a],.sl false []]from Z]
   rcases hs with hs|hs
   all_goals
    refine eM call220 λF hF=>?_
    refine yR (zt6 c1 m1 c3 c4 c5 c6) ?_;exact zJ
  ·rw[show yF ⟨14,[],[4,a],[]⟩= .agg [iA 14,.sl false [],.sl false [iA 4,iA a],.sl false []]from Z]
   rcases hs with hs|hs
   all_goals
    exact yI
 ·refine .bad e he ?_ ?_
  ·rw[bN]
   rcases hs with hs|hs
   all_goals
    refine eM call220 λF hF=>?_
    refine yR (zt6 c1 m1 c3 c4 c5 c6) ?_;exact zJ
  ·rw[bN]
   rcases hs with hs|hs
   all_goals
    exact yI
def zFf:AV:= .agg [iA 0,.s (.slice none 0 0),.s (.slice none 0 0),.s (.slice none 0 0)]
def zBg (r:Rg) (s R c life now e:Int) (he:¬e=0) (k:Nat) (sec:List Int)
  (c1:zO 265 [zD yY r.tk,iA s,iA R,iA c,iA life,zD yA (List.replicate 8 0),iA now] [] (.tup [.sl false [],iA k,iA e]) []):
  zO 237 [.ptr 14 0 0,zD iA [R,c,life],iA s,iA now,zD yA sec] [(14,QS r)] (.tup [zFf,iA e]) [(14,QS r)]:=by
 have hls:=zA yA sec;have hl3:([R,c,life].map iA).length=3:=rfl;unfold QS zFf;rw[show zD yA (List.replicate 8 0)= .sl false (List.replicate 8 (AV.s (.int .u8 0)))from Z]at c1;refine eM call237 λF hF=>?_
 (repeat' (first|refine WZX ?_|apply xL|apply wB|intro hc|(refine zE ?_;first|refine SM ?_)|fail))
 refine jJ (st':=⟨[(0,.ptr 14 0 0),(1,zD iA [R,c,life]),(2,iA s),(3,iA now),(4,zD yA sec),(10,.ptr 10 0 0),(11,iA 0),(12,.sl false (List.replicate 8 (AV.s (.int .u8 0))))],[(14,.box [iA r.num,zD yA r.ag.sec,iA r.ag.rights,iA r.ag.cls,zD iA r.ag.lim,iA r.ag.req,iA r.ag.ses,iA r.ag.rate,iA r.ag.burst,zD yY r.tk,zD vY r.vh,iA r.bk.level,iA r.bk.rate,iA r.bk.burst]),(10,.box [iA 0,.s (.slice none 0 0),.s (.slice none 0 0),.s (.slice none 0 0)])]⟩) [14,10] [0,1,2,3,4,10,11,12] Z Z ?_;refine zY c1 ?_;exact zL [14] Z Z Z Z
def zBh (r:Rg) (s R c life now:Int) (k:Nat) (l1:List Tk)
  (c1:zO 265 [zD yY r.tk,iA s,iA R,iA c,iA life,zD yA (List.replicate 8 0),iA now] [] (.tup [zD yY l1,iA k,iA 0]) []):
  zO 237 [.ptr 14 0 0,zD iA [R,c,life],iA s,iA now,zD yA []] [(14,QS r)] (.tup [zFf,iA 18]) [(14,QS r)]:=by
 have hls:(([]:List Int).map yA).length=0:=rfl;have hl3:([R,c,life].map iA).length=3:=rfl;unfold QS zFf;rw[show zD yA (List.replicate 8 0)= .sl false (List.replicate 8 (AV.s (.int .u8 0)))from Z]at c1;refine eM call237 λF hF=>?_
 (repeat' (first|refine WZX ?_|apply xL|apply wB|intro hc|(refine zE ?_;first|refine SM ?_)|fail))
 refine jJ (st':=⟨[(0,.ptr 14 0 0),(1,zD iA [R,c,life]),(2,iA s),(3,iA now),(4,zD yA []),(10,.ptr 10 0 0),(11,iA 0),(12,.sl false (List.replicate 8 (AV.s (.int .u8 0))))],[(14,.box [iA r.num,zD yA r.ag.sec,iA r.ag.rights,iA r.ag.cls,zD iA r.ag.lim,iA r.ag.req,iA r.ag.ses,iA r.ag.rate,iA r.ag.burst,zD yY r.tk,zD vY r.vh,iA r.bk.level,iA r.bk.rate,iA r.bk.burst]),(10,.box [iA 0,.s (.slice none 0 0),.s (.slice none 0 0),.s (.slice none 0 0)])]⟩) [14,10] [0,1,2,3,4,10,11,12] Z Z ?_;refine zY c1 ?_;exact zL [14] Z Z Z Z
def zBi (r:Rg) (hg:0<=r.num/\r.num<4) (s R c life now:Int) (sec:List Int) (hs:(sec.length:Int)=8) (k:Nat) (hk8:k<8) (l1 l2:List Tk)
  (c1:zO 265 [zD yY r.tk,iA s,iA R,iA c,iA life,zD yA (List.replicate 8 0),iA now] [] (.tup [zD yY l1,iA k,iA 0]) [])
  (c2:zO 265 [zD yY r.tk,iA s,iA R,iA c,iA life,zD yA sec,iA now] [] (.tup [zD yY l2,iA k,iA 0]) []):
  zO 237 [.ptr 14 0 0,zD iA [R,c,life],iA s,iA now,zD yA sec] [(14,QS r)] (.tup [.agg [iA 16,.s (.slice none 0 0),.sl false [iA k],zD yA (r.num::(k:Int)::sec)],iA 0]) [(14,QS (rgT r l2))]:=by
 have c3:=zK1 r.num k sec zB zB zB zB zB;have hls:=zA yA sec;have hl3:([R,c,life].map iA).length=3:=rfl;unfold QS rgT;dsimp only;generalize r.num::(k:Int)::sec=by1 at *;rw[show zD yA (List.replicate 8 0)= .sl false (List.replicate 8 (AV.s (.int .u8 0)))from Z]at c1;refine eM call237 λF hF=>?_
 (repeat' (first|refine WZX ?_|apply xL|apply wB|intro hc|(refine zE ?_;first|refine SM ?_)|fail))
 refine jJ (st':=⟨[(0,.ptr 14 0 0),(1,zD iA [R,c,life]),(2,iA s),(3,iA now),(4,zD yA sec),(10,.ptr 10 0 0),(11,iA 0),(12,.sl false (List.replicate 8 (AV.s (.int .u8 0))))],[(14,.box [iA r.num,zD yA r.ag.sec,iA r.ag.rights,iA r.ag.cls,zD iA r.ag.lim,iA r.ag.req,iA r.ag.ses,iA r.ag.rate,iA r.ag.burst,zD yY r.tk,zD vY r.vh,iA r.bk.level,iA r.bk.rate,iA r.bk.burst]),(10,.box [iA 0,.s (.slice none 0 0),.s (.slice none 0 0),.s (.slice none 0 0)])]⟩) [14,10] [0,1,2,3,4,10,11,12] Z Z ?_;refine yR (fQ c1 c2 c3) ?_;exact zL [14] Z Z Z Z
def CO (r:Rg) (n8:r.tk.length=8) (tkn:List Int) (R c life s now:Int) (hs0:0<=s) (hs8:s<8) (x1:List Int) (x2 x3 x4 x5:Int) (hy:(r.tk.map yY)[s.toNat]? =some (.agg [bA true,zD yA x1,iA x2,iA x3,iA x4,iA x5])) (k:Nat) (e f:Int) (hf:(e=0/\f=18)∨(¬e=0/\f=e)) (l1:List Tk)
 (k1:yV [qW r] [] (bA true) []) (m2:zO 98 [yF ⟨2,tkn,[R,c,life],[]⟩] [] (bA true) []) (k4:yV [qW r] [] (qW r) [])
 (e1:yV [zD yY r.tk,iA s,iA R,iA c,iA life,zD yA (List.replicate 8 0),iA now] [] (.tup [zD yY l1,iA k,iA e]) []) (kb:zO 51 [iA r.num,iA k,zD yA []] [] (zD yA (r.num::(k:Int)::[])) []):
 yV [qW r,yF ⟨2,tkn,[R,c,life],[]⟩,iA s,iA now,zD yA []] [] (doR f) []:=yI
def CP (r:Rg) (n8:r.tk.length=8) (tkn:List Int) (R c life s now:Int) (sec:List Int) (hsl:(sec.length:Int)=8) (hs0:0<=s) (hs8:s<8) (x1:List Int) (x2 x3 x4 x5:Int) (hy:(r.tk.map yY)[s.toNat]? =some (.agg [bA true,zD yA x1,iA x2,iA x3,iA x4,iA x5])) (k:Nat) (e:Int) (l1:List Tk)
 (k1:yV [qW r] [] (bA true) []) (m2:zO 98 [yF ⟨2,tkn,[R,c,life],[]⟩] [] (bA true) []) (k4:yV [qW r] [] (qW r) [])
 (e1:yV [zD yY r.tk,iA s,iA R,iA c,iA life,zD yA sec,iA now] [] (.tup [zD yY l1,iA k,iA e]) []) (kb:zO 51 [iA r.num,iA k,zD yA sec] [] (zD yA (r.num::(k:Int)::sec)) []):
 yV [qW r,yF ⟨2,tkn,[R,c,life],[]⟩,iA s,iA now,zD yA sec] [] (if e=0 then .tup [qW (rgT r l1),yF ⟨16,[],[(k:Int)],r.num::(k:Int)::sec⟩,bA true,iA 0]else doR e) []:=yI
def zPd:∀a b:_root_.Fin 64,(fH a.val b.val==(a.val:Int))=true->(fH b.val 16==(16:Int))=false->(fH a.val 16==(16:Int))=false:=by decide +kernel
def zWp {a b:Int} (h:wiF a b=true) (k:peF b 10=false):peF a 10=false:=by
 unfold wiF GI at h;simp only[zYg,zX9]at h;obtain⟨⟨⟨a0,a1⟩,b0,b1⟩,h⟩:=h;obtain⟨m,rfl⟩:=zZz a0;obtain⟨n,rfl⟩:=zZz b0;have e:BO 10=16:=by decide
 unfold peF GI at k⊢;rw[e]at k⊢;rw[zYa ⟨b0,b1⟩,zYr]at k;rw[zPd ⟨m,zB⟩ ⟨n,zB⟩ h k,yBt]
theorem do2 (r:Rg) (hgv:gvF r=true) (tkn:List Int) (R c life s now:Int) (sec:List Int) (hu:dW r.tk s=true) (hs:(sec.length:Int)=0∨(sec.length:Int)=8)
  (m1:zO 195 [yF ⟨2,tkn,[R,c,life],[]⟩] [] (bA true) []) (m2:zO 98 [yF ⟨2,tkn,[R,c,life],[]⟩] [] (bA true) []):VP r ⟨2,tkn,[R,c,life],[]⟩ s now sec:=by
 have H:=zKx hgv;have c1:=YP r XX;have k1:=aD r XX;rw[hgv]at c1 k1;have c3:=TU r.tk s;rw[hu]at c3;have c4:=cE r H.b;have k4:=PJ r H.b;obtain⟨k,e,_,hk,hkf,hD⟩:=CX r.tk H.b.tk s R c life now;have hn8:=H.n8
 have hk8:k<8:=by rcases hk with h|h<;>omega
 have hT0:e=0->∀y til,T0K r.tk (GO r.tk k e ⟨true,y,s,R,c,til⟩):=λhe y til=>λh t ht hu=>by
  obtain⟨_,p0,p1,_,p2,p3⟩:=hkf he;unfold GO at ht;rw[zX3 he]at ht
  rcases yAv ht with ht|rfl
  ·exact h t ht hu
  ·exact zWp p2 (h _ (zX r.tk s.toNat zB) p3)
 clear hkf;have kb:=zJ8 r.num k sec zB H.num.1 (by have:=H.num;omega) zB zB;have hnum:=H.num;have hls:=zA yA sec;have hlt:=zA yY r.tk;have hl1:([R,c,life].map iA).length=3:=rfl
 have hU:(r.tk.getD s.toNat default).used=true/\0<=s/\s<8:=by
  unfold dW at hu;rw[zYg,zX9]at hu;exact⟨hu.2,hu.1.1,zB⟩
 have hy:=yN yY r.tk s hU.2.1 zB;have hbR:∀t:Tk,t.sec.length<=1000000->ER (rgT r (GO r.tk k e t)):=λt ht=>⟨zUd H.b.tk k e t ht,H.b.s,H.b.l,H.b.v⟩
 obtain⟨hU,hs0,hs8⟩:=hU;clear hu H hgv hk;generalize r.tk.getD s.toNat default=x at *;obtain⟨xu,x1,x2,x3,x4,x5⟩:=x;dsimp only at hU;subst hU;rw[show yY ⟨true,x1,x2,x3,x4,x5⟩= .agg [bA true,zD yA x1,iA x2,iA x3,iA x4,iA x5]from Z]at hy;obtain⟨d1,e1⟩:=hD (List.replicate 8 0) Z;by_cases he:e=0
 ·subst he
  rcases hs with hs|hs
  ·
   have hs:=zYz (show sec.length=0 by omega);subst hs;have R1:=CO r hn8 tkn R c life s now hs0 hs8 x1 x2 x3 x4 x5 hy k 0 18 (.inl ⟨rfl,rfl⟩) _ k1 m2 k4 e1 kb;refine .bad 18 zV ?_ R1;clear R1;generalize GO r.tk k 0 ⟨true,List.replicate 8 0,s,R,c,BR life now⟩=l1 at *;have c5:=zBh r s R c life now k l1 d1;unfold QS zFf at c5;clear hD hbR;rw[bN];refine eM call220 λF hF=>?_
   refine yR (zt5 c1 m1 c3 c4 c5) ?_;exact zJ
  ·obtain⟨d2,e2⟩:=hD sec hs;have R1:=CP r hn8 tkn R c life s now sec hs hs0 hs8 x1 x2 x3 x4 x5 hy k 0 _ k1 m2 k4 e2 kb;rw[zX3 Z]at R1;refine⟨rgT r (GO r.tk k 0 ⟨true,sec,s,R,c,BR life now⟩),⟨16,[],[(k:Int)],r.num::(k:Int)::sec⟩,true,0,hbR _ (by show sec.length<=_;omega),⟨zYl _,by simp,by simp;omega⟩,⟨λh=>absurd Z h,λ_=> .inl ⟨_,by rw[GO,zX3 Z,zZx];exact hn8,hT0 Z _ _,rfl,.inr ⟨rfl,zB,rfl,k,hk8,rfl⟩⟩⟩,?_,R1⟩;clear R1;generalize GO r.tk k 0 ⟨true,List.replicate 8 0,s,R,c,BR life now⟩=l1 at *;generalize GO r.tk k 0 ⟨true,sec,s,R,c,BR life now⟩=l2 at *;have c5:=zBi r hnum s R c life now sec hs k hk8 l1 l2 d1 d2;unfold QS at c5;clear hD hbR;rw[show yF ⟨16,[],[(k:Int)],r.num::(k:Int)::sec⟩= .agg [iA 16,.sl false [],.sl false [iA (k:Int)],zD yA (r.num::(k:Int)::sec)]from Z];generalize r.num::(k:Int)::sec=by1 at *;refine eM call220 λF hF=>?_
   refine yR (zt5 c1 m1 c3 c4 c5) ?_;exact zJ
 ·have hno:∀t,GO r.tk k e t=[]:=λt=>by unfold GO;rw[zX2 he]
  have d1':=d1;rw[hno]at d1';have c5:=zBg r s R c life now e he k sec d1';unfold QS zFf at c5
  have R1:yV [qW r,yF ⟨2,tkn,[R,c,life],[]⟩,iA s,iA now,zD yA sec] [] (doR e) []:=by
   rcases hs with hs|hs
   ·have hs:=zYz (show sec.length=0 by omega);subst hs;exact CO r hn8 tkn R c life s now hs0 hs8 x1 x2 x3 x4 x5 hy k e e (.inr ⟨he,rfl⟩) _ k1 m2 k4 e1 kb
   ·obtain⟨d2,e2⟩:=hD sec hs;have R1:=CP r hn8 tkn R c life s now sec hs hs0 hs8 x1 x2 x3 x4 x5 hy k e _ k1 m2 k4 e2 kb;rw[zX2 he]at R1;exact R1
  refine .bad e he ?_ R1;clear R1 hD hbR hno e1 d1 d1';rw[bN]
  rcases hs with hs|hs
  all_goals
   refine eM call220 λF hF=>?_
   refine yR (zt5 c1 m1 c3 c4 c5) ?_;exact zJ
def zK0 (r:Rg) (m:Ms) (s now:Int) (sec:List Int) (c1:zO 235 [qW r] [] (bA true) []) (c2:zO 195 [yF m] [] (bA true) []) (c3:zO 236 [zD yY r.tk,iA s] [] (bA true) []) (c4:zO 173 [qW r] [] (qW r) []) (hs:(sec.length:Int)=0∨(sec.length:Int)=8)
  (h2:¬m.kind=2) (h3:¬m.kind=3) (h4:¬m.kind=4) (h5:¬m.kind=5):zO 220 [qW r,yF m,iA s,iA now,zD yA sec] [] (doR 1) []:=by
 rw[bN];have hls:=zA yA sec
 rcases hs with hs|hs
 all_goals
  refine eM call220 λF hF=>?_
  refine yR (XU c1 c2 c3 c4) ?_;exact zJ
def len1 {l:List Int} (h:l.length=1):∃a,l=[a]:=by
 match l,h with
 | [a],_=>exact⟨a,rfl⟩
def zXs {l:List Int} (h:l.length=2):∃a b,l=[a,b]:=by
 match l,h with
 | [a,b],_=>exact⟨a,b,rfl⟩
def zXt {l:List Int} (h:l.length=3):∃a b c,l=[a,b,c]:=by
 match l,h with
 | [a,b,c],_=>exact⟨a,b,c,rfl⟩
theorem zPe (r:Rg) (hv:r.vh.length<=1000) (m:Ms) (hm:MsB m) (s now:Int) (sec:List Int) (hs:sec.length<=1000):VP r m s now sec:=by
 have c1:=YP r zB;have k1:=aD r zB;obtain⟨b,c2,hb⟩:=zK5 m hm;have c3:=TU r.tk s
 cases hg:gvF r with
 |false=>
  rw[hg]at c1 k1;exact .bad 1 zV (VO r m s now sec false b _ c1 c2 c3 (.inl Z) hs) (zKy r m s now sec k1)
 |true=>
 have H:=zKx hg;rw[hg]at c1 k1;by_cases hk:m.kind=2∨m.kind=3∨m.kind=4∨m.kind=5
 case neg=>
  have h2:¬m.kind=2:=λh=>hk (.inl h)
  have h3:¬m.kind=3:=λh=>hk (.inr (.inl h))
  have h4:¬m.kind=4:=λh=>hk (.inr (.inr (.inl h)))
  have h5:¬m.kind=5:=λh=>hk (.inr (.inr (.inr h)))
  refine .bad 1 zV ?_ (zKz r m s now sec k1 h2 h3 h4 h5)
  cases b with
  |false=>exact VO r m s now sec true false _ c1 c2 c3 (.inr (.inl Z)) hs
  |true=>
  cases hu:dW r.tk s with
  |false=>exact VO r m s now sec true true _ c1 c2 c3 (.inr (.inr (.inl hu))) hs
  |true=>
  rw[hu]at c3;by_cases hsl:(sec.length:Int)=0∨(sec.length:Int)=8
  ·exact zK0 r m s now sec c1 c2 c3 (cE r H.b) hsl h2 h3 h4 h5
  ·exact VO r m s now sec true true true c1 c2 c3 (.inr (.inr (.inr ⟨λh=>hsl (.inl h),λh=>hsl (.inr h)⟩))) hs
 obtain⟨f,hf⟩:∃f,kdP m.kind f:=by
  unfold kdP
  rcases hk with h|h|h|h
  ·exact⟨3,.inl ⟨h,rfl⟩⟩
  ·exact⟨1,.inr (.inl ⟨h,rfl⟩)⟩
  ·exact⟨2,.inr (.inr (.inl ⟨h,rfl⟩))⟩
  ·exact⟨1,.inr (.inr (.inr ⟨h,rfl⟩))⟩
 obtain⟨b',k2,hb'⟩:=zFh m hm f hf
 have hbb:b'=b:=by
  have h1:=hb f hf
  cases b<;>cases b'<;>simp_all
 subst hbb;have h1:=hb f hf
 cases b' with
 |false=>exact .bad 1 zV (VO r m s now sec true false _ c1 c2 c3 (.inr (.inl Z)) hs) (NP r m s now sec H.n8 false k1 k2 hk (.inl Z) hs)
 |true=>
 cases hu:dW r.tk s with
 |false=>exact .bad 1 zV (VO r m s now sec true true _ c1 c2 c3 (.inr (.inr (.inl hu))) hs) (NP r m s now sec H.n8 true k1 k2 hk (.inr (.inl hu)) hs)
 |true=>
 by_cases hsl:(sec.length:Int)=0∨(sec.length:Int)=8
 case neg=>
  have hq:¬(sec.length:Int)=0/\¬(sec.length:Int)=8:=⟨λh=>hsl (.inl h),λh=>hsl (.inr h)⟩;exact .bad 1 zV (VO r m s now sec true true _ c1 c2 c3 (.inr (.inr (.inr hq))) hs) (NP r m s now sec H.n8 true k1 k2 hk (.inr (.inr hq)) hs)
 obtain⟨_,hd,hal,_⟩:=h1.1 Z;obtain⟨mk,tkn,ar,da⟩:=m;dsimp only at hd hal hf;subst hd
 rcases hf with⟨rfl,rfl⟩|⟨rfl,rfl⟩|⟨rfl,rfl⟩|⟨rfl,rfl⟩
 ·obtain⟨x,y,z,rfl⟩:=zXt hal;exact do2 r hg tkn x y z s now sec hu hsl c2 k2
 ·obtain⟨x,rfl⟩:=len1 hal;exact do3 r hg tkn x s now sec hu hsl c2 k2
 ·obtain⟨x,y,rfl⟩:=zXs hal;exact do4 r hg tkn x y s now sec hu hsl c2 k2
 ·obtain⟨x,rfl⟩:=len1 hal;exact do5 r hg tkn x s now sec hu hsl c2 k2
def dgD (d:xI) (m:Ms) (r':Rg) (u:Bool) (e:Int):xI:=if e=0 then⟨r',(if m.kind=5 then ET d.rq (m.args.getD 0 0)else d.rq),(if u=true then d.dr.drop 1 else d.dr),d.au⟩else d
def MZ (d:xI):List Int:=d.dr.headD []
def zUe (d:xI) (m:Ms) (slot now:Int) (hv:ZN d.rq) (hn:d.dr.length<=1000) (r':Rg) (p:Ms) (u:Bool) (e:Int)
  (f1:zO 220 [qW d.rg,yF m,iA slot,iA now,zD yA (MZ d)] [] (.tup [qW r',yF p,bA u,iA e]) []) (h5:m.kind=5->∃a,m.args=[a]):
  zO 201 [zK d,yF m,iA slot,iA now] [] (.tup [zK (dgD d m r' u e),yF (if e=0 then p else PM),iA e]) []:=by
 unfold dgD;obtain⟨rg,rq,dr,au⟩:=d;obtain⟨k,tk0,ar,da⟩:=m;unfold MZ at f1;dsimp only at *;have hlr:(dr.map kE).length=dr.length:=zA kE dr
 cases dr with
 | nil=>
  rw[List.headD_nil]at f1;by_cases he:e=0
  ·subst he;rw[zX3 Z,zX3 Z];by_cases hk:k=5
   ·subst hk;obtain⟨a,rfl⟩:=h5 Z;have hw:=LS rq a hv;rw[zX3 Z,show([a]:List Int).getD 0 0=a from Z];generalize ET rq a=ql at *;unfold qW yF at f1;unfold zK wI yF;cases u
    ·(refine eM call201 λF hF=>?_)
     refine yR (wZ f1 hw) ?_;exact zJ
    ·(refine eM call201 λF hF=>?_)
     refine yR (wZ f1 hw) ?_;exact zJ
   ·rw[zX2 hk];clear h5;unfold qW yF at f1;unfold zK wI yF;cases u
    ·(refine eM call201 λF hF=>?_)
     refine zY f1 ?_;exact zJ
    ·(refine eM call201 λF hF=>?_)
     refine zY f1 ?_;exact zJ
  ·rw[zX2 he,zX2 he];clear h5;unfold qW yF at f1;unfold zK wI yF PM;refine eM call201 λF hF=>?_
   refine zY f1 ?_;exact zJ
 | cons b bs=>
  rw[List.headD_cons]at f1;have hlr:(kE b::bs.map kE).length=bs.length+1:=by rw[zYh,zX5]
  rw[zYh]at hn;have hbb:zD kE (b::bs)= .sl false (kE b::bs.map kE):=rfl;by_cases he:e=0
  ·subst he;rw[zX3 Z,zX3 Z];by_cases hk:k=5
   ·subst hk;obtain⟨a,rfl⟩:=h5 Z;have hw:=LS rq a hv;rw[zX3 Z,show([a]:List Int).getD 0 0=a from Z];generalize ET rq a=ql at *;unfold qW yF at f1;unfold zK wI yF;rw[hbb];cases u
    ·(refine eM call201 λF hF=>?_)
     refine yR (wZ f1 hw) ?_;exact zJ
    ·(refine eM call201 λF hF=>?_)
     refine yR (wZ f1 hw) ?_;exact zJ
   ·rw[zX2 hk];clear h5;unfold qW yF at f1;unfold zK wI yF;rw[hbb];cases u
    ·(refine eM call201 λF hF=>?_)
     refine zY f1 ?_;exact zJ
    ·(refine eM call201 λF hF=>?_)
     refine zY f1 ?_;exact zJ
  ·rw[zX2 he,zX2 he];clear h5;unfold qW yF at f1;unfold zK wI yF PM;rw[hbb];refine eM call201 λF hF=>?_
   refine zY f1 ?_;exact zJ
def zPf (d:xI) (m:Ms) (slot now:Int) (hv:ZN d.rq) (hn:d.dr.length<=1000) (r':Rg) (p:Ms) (u:Bool) (e:Int)
 (f1:yV [qW d.rg,yF m,iA slot,iA now,zD yA (MZ d)] [] (.tup [qW r',yF p,bA u,iA e]) []) (h5:m.kind=5->∃a,m.args=[a]) (hu:u=true->d.dr≠[]):
 yV [zK d,yF m,iA slot,iA now] [] (.tup [zK (dgD d m r' u e),yF p,iA e]) []:=yI
structure It where
 code:Int
 kind:Int
 pay:List Int
def wO (i:It):AV:= .agg [iA i.code,iA i.kind,zD yA i.pay]
def hT (d:xI) (p:Ms) (k e:Int):AV:= .tup [zK d,yF p,iA k,iA e]
def zPg (c:Cf) (d:xI) (s now:Int) (i:It) (hc:i.code≠0):zO 170 [vL c,zK d,iA s,wO i,iA now] [] (hT d PM (-1) i.code) []:=by
 unfold vL hT zK wI wO yF PM;refine eM call170 λF hF=>?_
 refine WW ?_;exact zJ
def zPh (c:Cf) (d:xI) (s now:Int) (i:It) (hc:i.code=0) (hk:¬(1<=i.kind/\i.kind<=12)):zO 170 [vL c,zK d,iA s,wO i,iA now] [] (hT d PM (-1) 5) []:=by
 have k1:=dA i.kind;rw[zYb hk]at k1;obtain⟨co,ki,pa⟩:=i;dsimp only at *;subst hc;unfold vL hT zK wI wO yF PM;refine eM call170 λF hF=>?_
 refine zY k1 ?_;exact zJ
def zPi (c:Cf) (d:xI) (s now k:Int) (pa:List Int) (h0:1<=k) (h1:k<=12) (k2:zO 69 [iA k,zD yA pa] [] (deT k (pa.take 10) none) []):zO 170 [vL c,zK d,iA s,wO ⟨0,k,pa⟩,iA now] [] (hT d PM (-1) 6) []:=by
 have k1:=dA k;rw[zYa ⟨h0,h1⟩]at k1;unfold deT yF at k2;unfold vL hT zK wI wO yF PM;refine eM call170 λF hF=>?_
 refine yR (wZ k1 k2) ?_;exact zJ
def zPj (c:Cf) (d:xI) (s now k:Int) (pa tk0 ar:List Int) (h0:1<=k) (h1:k<=12) (k2:zO 69 [iA k,zD yA pa] [] (.tup [yF ⟨k,tk0,ar,[]⟩,iA 0]) []) (r:Rg) (sl e:Int) (he:e≠0)
  (k3:zO 200 [qW d.rg,yF ⟨k,tk0,ar,[]⟩,iA now] [] (.tup [qW r,iA sl,iA e]) []):zO 170 [vL c,zK d,iA s,wO ⟨0,k,pa⟩,iA now] [] (hT d PM (-1) e) []:=by
 have k1:=dA k;rw[zYa ⟨h0,h1⟩]at k1;unfold yF at k2 k3;unfold qW at k3;unfold vL hT zK wI wO yF PM;refine eM call170 λF hF=>?_
 refine yR (fQ k1 k2 k3) ?_;exact zJ
def wE (d:xI) (r:Rg):xI:=⟨r,d.rq,d.dr,d.au⟩
section
variable (c:Cf) (d:xI) (s now k:Int) (pa tk0 ar:List Int) (h0:1<=k) (h1:k<=12) (k2:zO 69 [iA k,zD yA pa] [] (.tup [yF ⟨k,tk0,ar,[]⟩,iA 0]) []) (r:Rg) (sl:Int)
 (k3:zO 200 [qW d.rg,yF ⟨k,tk0,ar,[]⟩,iA now] [] (.tup [qW r,iA sl,iA 0]) [])
include h0 h1 k2 k3
def zUf (hk:k=2∨k=3∨k=4∨k=5) (d':xI) (p:Ms) (e:Int) (k4:zO 201 [zK (wE d r),yF ⟨k,tk0,ar,[]⟩,iA sl,iA now] [] (.tup [zK d',yF p,iA e]) []):
  zO 170 [vL c,zK d,iA s,wO ⟨0,k,pa⟩,iA now] [] (hT d' p (-1) e) []:=by
 have k1:=dA k;rw[zYa ⟨h0,h1⟩]at k1;unfold yF at k2 k3 k4;unfold qW at k3;unfold wE zK wI at k4;unfold vL hT zK wI wO yF
 rcases hk with rfl|rfl|rfl|rfl
 all_goals
  refine eM call170 λF hF=>?_
  refine yR (XU k1 k2 k3 k4) ?_;exact zJ
def HN (hk:k=6∨k=7∨k=8) (l:List Rq) (e:Int) (he:e≠0) (k4:zO 202 [vL c,zK (wE d r),yF ⟨k,tk0,ar,[]⟩,iA sl,iA now] [] (.tup [zD yL l,iA e]) []):
  zO 170 [vL c,zK d,iA s,wO ⟨0,k,pa⟩,iA now] [] (hT (wE d r) PM (-1) e) []:=by
 have k1:=dA k;rw[zYa ⟨h0,h1⟩]at k1;unfold yF at k2 k3 k4;unfold qW at k3;unfold wE vL zK wI at k4;unfold wE vL hT zK wI wO yF PM
 rcases hk with rfl|rfl|rfl
 all_goals
  refine eM call170 λF hF=>?_
  refine yR (XU k1 k2 k3 k4) ?_;exact zJ
def HO (hk:k=6∨k=7∨k=8) (a:Int) (as1:List Int) (har:ar=a::as1) (l:List Rq) (k4:zO 202 [vL c,zK (wE d r),yF ⟨k,tk0,ar,[]⟩,iA sl,iA now] [] (.tup [zD yL l,iA 0]) []):
  zO 170 [vL c,zK d,iA s,wO ⟨0,k,pa⟩,iA now] [] (hT (dkQ (wE d r) l) (fA k a) (-1) 0) []:=by
 subst har;have k1:=dA k;have k5:=HG k a;rw[zYa ⟨h0,h1⟩]at k1;unfold fA yF at k5;rw[show yF ⟨k,tk0,a::as1,[]⟩= .agg [iA k,zD yA tk0,.sl false (iA a::as1.map iA),.sl false []]from Z]at k2 k3 k4;generalize as1.map iA=A at *;unfold qW at k3;unfold wE vL zK wI at k4;unfold dkQ wE vL hT zK wI wO fA yF
 rcases hk with rfl|rfl|rfl
 all_goals
  refine eM call170 λF hF=>?_
  refine yR (zt5 k1 k2 k3 k4 k5) ?_;exact zJ
def HP (hk:k=1∨k=9∨k=12) (p:Ms) (k4:zO 204 [zK (wE d r),iA k,iA now] [] (yF p) []):
  zO 170 [vL c,zK d,iA s,wO ⟨0,k,pa⟩,iA now] [] (hT (wE d r) p (-1) 0) []:=by
 have k1:=dA k;rw[zYa ⟨h0,h1⟩]at k1;unfold yF at k2 k3 k4;unfold qW at k3;unfold wE zK wI at k4;unfold wE vL hT zK wI wO yF
 rcases hk with rfl|rfl|rfl
 all_goals
  refine eM call170 λF hF=>?_
  refine yR (XU k1 k2 k3 k4) ?_;exact zJ
theorem zPk (hk:k=11) (a:Int) (har:ar=[a]) (ha:(c.js.length:Int)<=a):
  zO 170 [vL c,zK d,iA s,wO ⟨0,k,pa⟩,iA now] [] (hT (wE d r) PM (-1) 8) []:=by
 subst hk har;have k1:=dA 11;have hlj:=zA vC c.js;rw[show yF ⟨11,tk0,[a],[]⟩= .agg [iA 11,zD yA tk0,.sl false [iA a],.sl false []]from Z]at k2 k3;unfold qW at k3;unfold wE vL hT zK wI wO PM yF;refine eM call170 λF hF=>?_
 refine yR (fQ k1 k2 k3) ?_;exact zJ
theorem zPl (hk:k=11) (a:Int) (har:ar=[a]) (ha:a<(c.js.length:Int)):
  zO 170 [vL c,zK d,iA s,wO ⟨0,k,pa⟩,iA now] [] (hT (wE d r) (fA 11 a) a 0) []:=by
 subst hk har;have k1:=dA 11;have k5:=HG 11 a;have hlj:=zA vC c.js;unfold fA yF at k5;rw[show yF ⟨11,tk0,[a],[]⟩= .agg [iA 11,zD yA tk0,.sl false [iA a],.sl false []]from Z]at k2 k3;unfold qW at k3;unfold wE vL hT zK wI wO fA yF;refine eM call170 λF hF=>?_
 refine yR (XU k1 k2 k3 k5) ?_;exact zJ
theorem zPm (hk:k=10) (a:Int) (har:ar=[a]) (ha:1<a):
  zO 170 [vL c,zK d,iA s,wO ⟨0,k,pa⟩,iA now] [] (hT (wE d r) PM (-1) 8) []:=by
 subst hk har;have k1:=dA 10;rw[show yF ⟨10,tk0,[a],[]⟩= .agg [iA 10,zD yA tk0,.sl false [iA a],.sl false []]from Z]at k2 k3;unfold qW at k3;unfold wE vL hT zK wI wO PM yF;refine eM call170 λF hF=>?_
 refine yR (fQ k1 k2 k3) ?_;exact zJ
theorem zPn (hk:k=10) (a:Int) (har:ar=[a]) (ha:a<=1) (hs:¬(0<=s/\s<(d.au.length:Int))):
  zO 170 [vL c,zK d,iA s,wO ⟨0,k,pa⟩,iA now] [] (hT (wE d r) (fA 10 a) (-1) 0) []:=by
 subst hk har;have k1:=dA 10;have k5:=HG 10 a;have hla:=zA bA d.au;unfold fA yF at k5;rw[show yF ⟨10,tk0,[a],[]⟩= .agg [iA 10,zD yA tk0,.sl false [iA a],.sl false []]from Z]at k2 k3;unfold qW at k3;unfold wE vL hT zK wI wO fA yF;by_cases h2:0<=s
 ·have h3:(d.au.length:Int)<=s:=by omega
  refine eM call170 λF hF=>?_
  refine yR (XU k1 k2 k3 k5) ?_;exact zJ
 ·(refine eM call170 λF hF=>?_)
  refine yR (XU k1 k2 k3 k5) ?_;exact zJ
end
def jS (b:List Int):Nat:=(b.getD 4 0).toNat*256+(b.getD 5 0).toNat
def ZG (b:List Int):Option (It×Nat):=
 if b.length=0 then none
 else if b.getD 0 0≠90∨(1<b.length/\b.getD 1 0≠165)then some (⟨2,0,[]⟩,1)
 else if b.length<6 then none
 else if 200<jS b then some (⟨7,0,[]⟩,1)
 else if b.length<jS b+10 then none
 else if eK ((b.drop 2).take (jS b+4))≠XM ((b.drop (jS b+6)).take 4)then some (⟨4,0,[]⟩,1)
 else if b.getD 2 0≠1 then some (⟨3,0,[]⟩,jS b+10)
 else if b.getD 3 0<1∨22<b.getD 3 0 then some (⟨5,0,[]⟩,jS b+10)
 else some (⟨0,b.getD 3 0,(b.drop 6).take (jS b)⟩,jS b+10)
def zFg (o:Option (It×Nat)):AV:=match o with
 |none=> .tup [wO ⟨0,0,[]⟩,iA 0,bA false]
 |some x=> .tup [wO x.1,iA x.2,bA true]
def or8 {x y:Int} (hx:0<=x/\x<256) (hy:0<=y/\y<256):orI (IntKind.i64.wrap (x*2 ^ (min (8:Int).toNat IntKind.i64.bits))) y=x*256+y:=by
 have h1:IntKind.i64.wrap (x*2 ^ (min (8:Int).toNat IntKind.i64.bits))=x*256:=by
  rw[show x*2 ^ (min (8:Int).toNat IntKind.i64.bits)=x*256 from Z];exact kV (k:= .i64) ⟨by show -9223372036854775808<=_;omega,by show _<=9223372036854775807;omega⟩
 rw[h1];obtain⟨a,rfl⟩:=zZz hx.1;obtain⟨c,rfl⟩:=zZz hy.1;have h2:=IE (a*256) c zB zB;have h3:=yBz (show c<2 ^ 8 by omega) a;rw[yC6]at h3;rw[show((a:Int)*256)=((a*256:Nat):Int) by omega,h2,<-h3];omega
def WB (b:List Int) (hb:BY b) (i:Nat) (hi:i<b.length):(b.map yA)[i]? =some (yA (b.getD i 0))/\0<=b.getD i 0/\b.getD i 0<256:=by
 have e:b.getD i 0=b[i]:=by simp[List.getD,hi]
 refine⟨by rw[zX8,zYk hi,e];rfl,?_⟩;rw[e];exact hb _ (yAr hi)
section
variable (b:List Int) (hb:BY b) (hl:b.length<=1000000)
include hb hl
theorem zDl:zO 102 [zD yA b] [] (zFg (ZG b)) []:=by
 have hlb:=zA yA b;unfold ZG;by_cases h0:b.length=0
 ·rw[zX3 h0];refine eM call102 λF hF=>?_
  refine WW ?_;exact zJ
 rw[zX2 h0];obtain⟨y0,z0⟩:=WB b hb 0 zB;by_cases h1:b.getD 0 0=90
 case neg=>
  rw[zX3 (.inl h1)];generalize b.getD 0 0=x0 at *;refine eM call102 λF hF=>?_
  refine WW ?_;exact zJ
 by_cases h2:1<b.length
 case neg=>
  rw[zX2 (λh=>h.elim (λh=>h h1) (λh=>h2 h.1)),zX3 zB];rw[h1]at y0;refine eM call102 λF hF=>?_
  refine WW ?_;exact zJ
 obtain⟨y1,z1⟩:=WB b hb 1 h2;by_cases h3:b.getD 1 0=165
 case neg=>
  rw[zX3 (.inr ⟨h2,h3⟩)];rw[h1]at y0;generalize b.getD 1 0=x1 at *;refine eM call102 λF hF=>?_
  refine WW ?_;exact zJ
 rw[zX2 (λh=>h.elim (λh=>h h1) (λh=>h.2 h3))];rw[h1]at y0;rw[h3]at y1;clear z0 z1 h1 h3;by_cases h4:b.length<6
 ·rw[zX3 h4];refine eM call102 λF hF=>?_
  refine WW ?_;exact zJ
 rw[zX2 h4];obtain⟨y4,z4⟩:=WB b hb 4 zB;obtain⟨y5,z5⟩:=WB b hb 5 zB;have hor:=or8 z4 z5;have hpn:b.getD 4 0*256+b.getD 5 0=(jS b:Int):=by unfold jS;omega
 rw[hpn]at hor;generalize b.getD 4 0=x4 at *;generalize b.getD 5 0=x5 at *;generalize hN:jS b=N at *;by_cases h6:200<N
 ·rw[zX3 h6];refine eM call102 λF hF=>?_
  refine WW ?_;exact zJ
 rw[zX2 h6];have kz:=zCr (N:Int) zB zB;by_cases h7:b.length<N+10
 ·rw[zX3 h7];refine eM call102 λF hF=>?_
  (repeat' (first|refine uJ ?_|apply xL|apply wB|intro hc|(refine zE ?_;first|refine SM ?_)|fail))
  rw[hor];refine zY kz ?_;exact zJ
 rw[zX2 h7];have bd:∀i k,BY ((b.drop i).take k):=λi k x hx=>hb x (zY1 (zZl hx))
 have kc:=zQs ((b.drop 2).take (N+4)) zC4 (bd _ _);have kn:=zI5 ((b.drop (N+6)).take 4) zC4 (bd _ _)
 have e1:((b.map yA).drop (2:Int).toNat).take ((6+(N:Int)).toNat-(2:Int).toNat)=((b.drop 2).take (N+4)).map yA:=by
  rw[yBd,yBc,show(6+(N:Int)).toNat-(2:Int).toNat=N+4 by omega];rfl
 have e2:((b.map yA).drop (6+(N:Int)).toNat).take ((6+(N:Int)+4).toNat-(6+(N:Int)).toNat)=((b.drop (N+6)).take 4).map yA:=by
  rw[yBd,yBc,show(6+(N:Int)+4).toNat-(6+(N:Int)).toNat=4 by omega,show(6+(N:Int)).toNat=N+6 by omega]
 have e3:((b.map yA).drop (6:Int).toNat).take ((6+(N:Int)).toNat-(6:Int).toNat)=((b.drop 6).take N).map yA:=by
  rw[yBd,yBc,show(6+(N:Int)).toNat-(6:Int).toNat=N by omega];rfl
 have hpl:(((b.drop 6).take N).map yA).length=N:=by rw[zX5,zYn,zYv];omega
 have hph:∀y,(((b.drop 6).take N).map yA)[0]? =some y->y.cells.length=1:=zN _ _ (λ_=>rfl);generalize (b.drop 2).take (N+4)=B1 at *;generalize (b.drop (N+6)).take 4=B2 at *;generalize (b.drop 6).take N=B3 at *;clear bd;obtain⟨y2,z2⟩:=WB b hb 2 zB;obtain⟨y3,z3⟩:=WB b hb 3 zB;generalize b.getD 2 0=x2 at *;generalize b.getD 3 0=x3 at *;generalize eK B1=u1 at *;generalize XM B2=u2 at *;by_cases h8:u1=u2
 case neg=>
  rw[zX3 h8];refine eM call102 λF hF=>?_
  (repeat' (first|refine uJ ?_|apply xL|apply wB|intro hc|(refine zE ?_;first|refine SM ?_)|fail))
  rw[hor];refine yR (fQ kz kc kn) ?_;exact zJ
 rw[zX2 (λh=>h h8)];by_cases h9:x2=1
 case neg=>
  rw[zX3 h9];refine eM call102 λF hF=>?_
  (repeat' (first|refine uJ ?_|apply xL|apply wB|intro hc|(refine zE ?_;first|refine SM ?_)|fail))
  rw[hor];refine yR (fQ kz kc kn) ?_;refine zI [] Z Z (zY3 (λz=>AV.tup [.agg [iA 3,iA 0,.sl false []],iA z,bA true]) ?_) Z;omega
 rw[zX2 (λh=>h h9)];by_cases h10:x3<1∨22<x3
 ·rw[zX3 h10]
  rcases h10 with h10|h10
  all_goals
   refine eM call102 λF hF=>?_
   (repeat' (first|refine uJ ?_|apply xL|apply wB|intro hc|(refine zE ?_;first|refine SM ?_)|fail))
   rw[hor];refine yR (fQ kz kc kn) ?_;refine zI [] Z Z (zY3 (λz=>AV.tup [.agg [iA 5,iA 0,.sl false []],iA z,bA true]) ?_) Z;omega
 ·rw[zX2 h10];have h11:1<=x3:=by omega
  have h12:x3<=22:=by omega
  refine eM call102 λF hF=>?_
  (repeat' (first|refine uJ ?_|apply xL|apply wB|intro hc|(refine zE ?_;first|refine SM ?_)|fail))
  rw[hor]
  (have zc1:=kz;have zc2:=kc;have zc3:=kn;(repeat' (first|refine uJ ?_|apply xL|apply wB|intro hc|(refine zE ?_;first|refine SM ?_|(refine qE (NE tok Z Z Z Z Z Z Z hph Z zB) Z Z Z ?_))|fail))<;>clear zc1 zc2 zc3)
  have hsz:6+(N:Int)+4=((N+10:Nat):Int):=by omega
  refine zI [] Z Z ?_ Z
  show AV.tup [.agg [iA 0,iA x3,.sl false (List.take N (List.drop 0 (List.take 0 (List.replicate N (yA 0))++B3.map yA++List.drop (0+(B3.map yA).length) (List.replicate N (yA 0)))))],iA (6+(N:Int)+4),bA true]=_
  rw[hsz,hpl,zYq,yA9,yAm,yB2 zW,zY4,zYe zB];rfl
end
end Av
end Go.Proofs.YteajjdidebfcjaaGreat
