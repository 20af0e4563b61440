/- Part 12. -/
import Derived.Test.YteajjdidebfcjaaGreatU11
namespace Go.Proofs.YteajjdidebfcjaaGreat
namespace Av
open Tryz
set_option linter.all false
set_option maxRecDepth 4000
set_option maxHeartbeats 4000000
def zTm {l:List Tk} (h:LK l=true):FH l/\l.length=8:=by
 rw[zH7]at h;have T:=(zUa l).1 h;refine⟨⟨by have:=T.n;omega,λt ht=>?_⟩,T.n⟩;obtain⟨i,hi,rfl⟩:=yCp ht;have hi8:i<8:=by have:=T.n;omega
 have e:l.getD i default=l[i]:=by simp[List.getD,hi]
 cases hu:(l.getD i default).used with
 |false=>
  have:=T.f i hi8 hu;unfold EH at this;rw[yAm]at this;rw[<-e];omega
 |true=>
  have:=(T.s i hi8 hu).1;unfold soF zH0 at this;simp only[yAs,yAm]at this;rw[<-e];omega
def zTn {l:List Tk} (hb:FH l) (k:Nat) (e:Int) (t:Tk) (ht:t.sec.length<=1000000):FH (FL l k e t):=by
 unfold FL;split
 ·refine⟨by rw[yB7];exact hb.n,λx hx=>?_⟩
  rcases yC8 hx with h|rfl
  ·exact hb.s x h
  ·exact ht
 ·exact XK
structure GvB (r:Rg):Prop where
 num:0<=r.num/\r.num<4
 b:EZ r
 tv:LK r.tk=true
 n8:r.tk.length=8
 lim:(r.ag.lim.length:Int)=4
 cls:0<=r.ag.cls/\r.ag.cls<=3
 vl:r.vh.length<=8
def zHn {r:Rg} (h:gvF r=true):GvB r:=by
 unfold gvF at h;simp only[yAs,yAm]at h;obtain⟨h1,h2,h3,h4,h5,h6⟩:=h;obtain⟨t1,t2⟩:=zTm h3;have hv:=(zR9.1 h4).1;unfold avF at h2;simp only[yAs,yAm]at h2;obtain⟨⟨a1,a2⟩,a3,a4,a5,a6⟩:=h2;unfold jV at a5;rw[yAm]at a5;exact⟨h1,⟨t1,zB,zB,zB⟩,h3,t2,a2,a5,hv⟩
def rg0:Rg:=⟨0,⟨[],0,0,[],0,0,0,0⟩,[],[],⟨0,0,0⟩⟩
def PI:Ms:=⟨0,[],[],[]⟩
def doR (e:Int):AV:= .tup [qG rg0,yB PI,bA false,iA e]
def zW5:EZ rg0:=⟨XK,yAt _,yAt _,yAt _⟩
def cS (e:Int):doR e= .tup [.agg [iA 0,.sl false [],iA 0,iA 0,.sl false [],iA 0,iA 0,iA 0,iA 0,.sl false [],.sl false [],iA 0,iA 0,iA 0],.agg [iA 0,.sl false [],.sl false [],.sl false []],bA false,iA e]:=rfl
def WM (r:Rg) (m:Ms) (s now:Int) (sec:List Int) (gv b us:Bool) (c1:zN 235 [qG r] [] (bA gv) []) (c2:zN 195 [yB m] [] (bA b) []) (c3:zN 236 [zC xB r.tk,iA s] [] (bA us) []) (h:gv=false∨b=false∨us=false∨(¬(sec.length:Int)=0/\¬(sec.length:Int)=8)) (hsl:sec.length<=1000):
  zN 220 [qG r,yB m,iA s,iA now,zC yA sec] [] (doR 1) []:=by
 rw[cS];have hls:=zA yA sec;cases gv
 ·(refine eM call220 λF hF=>?_)
  refine zV c1 ?_;exact zJ
 cases b
 ·(refine eM call220 λF hF=>?_)
  refine yQ (wV c1 c2) ?_;exact zJ
 cases us
 ·(refine eM call220 λF hF=>?_)
  refine yQ (gG c1 c2 c3) ?_;exact zJ
 ·rcases h with h|h|h|⟨h1,h2⟩
  ·cases h
  ·cases h
  ·cases h
  ·(refine eM call220 λF hF=>?_)
   refine yQ (gG c1 c2 c3) ?_;exact zJ
def zHo (r:Rg) (m:Ms) (s now:Int) (sec:List Int) (c1:yY [qG r] [] (bA false) []):
 yY [qG r,yB m,iA s,iA now,zC yA sec] [] (doR 1) []:=yF
def zHp (r:Rg) (m:Ms) (s now:Int) (sec:List Int) (c1:yY [qG r] [] (bA true) []) (h2:¬m.kind=2) (h3:¬m.kind=3) (h4:¬m.kind=4) (h5:¬m.kind=5):
 yY [qG r,yB m,iA s,iA now,zC yA sec] [] (doR 1) []:=yF
def OO (r:Rg) (m:Ms) (s now:Int) (sec:List Int) (n8:r.tk.length=8) (b:Bool) (c1:yY [qG r] [] (bA true) []) (c2:zN 98 [yB m] [] (bA b) []) (hk:m.kind=2∨m.kind=3∨m.kind=4∨m.kind=5)
 (h:b=false∨eV r.tk s=false∨(¬(sec.length:Int)=0/\¬(sec.length:Int)=8)) (hsl:sec.length<=1000):yY [qG r,yB m,iA s,iA now,zC yA sec] [] (doR 1) []:=yF
def zAg (k a:Int):yY [iA k,iA a] [] (yB ⟨14,[],[k,a],[]⟩) []:=yF
def rgV (r:Rg) (l:List Vh):Rg:=⟨r.num,r.ag,r.tk,l,r.bk⟩
def DoP (r:Rg) (m:Ms) (sec:List Int) (r':Rg) (p:Ms) (u:Bool) (e:Int):Prop:=
 (e≠0->u=false/\0<=e/\e<=100)/\(e=0->(∃o,o.length=8/\T0K r.tk o/\r'=rgT r o/\((u=false/\p=⟨14,[],[3,m.args.getD 0 0],[]⟩/\m.kind=3)∨(u=true/\sec.length=8/\m.kind=2/\∃k:Nat,k<8/\p=⟨16,[],[(k:Int)],r.num::(k:Int)::sec⟩)))∨
  (∃o,o.length<=8/\r'=rgV r o/\u=false/\(m.kind=4∨m.kind=5)/\p=⟨14,[],[m.kind,m.args.getD 0 0],[]⟩))
def WN (r:Rg) (m:Ms) (s now:Int) (sec:List Int):Prop:=∃(r':Rg) (p:Ms) (u:Bool) (e:Int),EZ r'/\MsB p/\DoP r m sec r' p u e/\
 zN 220 [qG r,yB m,iA s,iA now,zC yA sec] [] (.tup [qG r',yB p,bA u,iA e]) []/\
 yY [qG r,yB m,iA s,iA now,zC yA sec] [] (.tup [qG r',yB p,bA u,iA e]) []
def zW6:MsB PI:=⟨yAt _,yAt _,yAt _⟩
theorem WN.bad {r:Rg} {m:Ms} {s now:Int} {sec:List Int} (e:Int) (he:e≠0) (h1:zN 220 [qG r,yB m,iA s,iA now,zC yA sec] [] (doR e) []) (h2:yY [qG r,yB m,iA s,iA now,zC yA sec] [] (doR e) []) (hb:0<=e/\e<=100:=by omega):WN r m s now sec:=
 ⟨rg0,PI,false,e,zW5,zW6,⟨λ_=>⟨rfl,hb⟩,λh=>absurd h he⟩,h1,h2⟩
def do3 (r:Rg) (hgv:gvF r=true) (tkn:List Int) (a s now:Int) (sec:List Int) (hu:eV r.tk s=true) (hs:(sec.length:Int)=0∨(sec.length:Int)=8)
  (m1:zN 195 [yB ⟨3,tkn,[a],[]⟩] [] (bA true) []) (m2:zN 98 [yB ⟨3,tkn,[a],[]⟩] [] (bA true) []):WN r ⟨3,tkn,[a],[]⟩ s now sec:=by
 have H:=zHn hgv;have c1:=YC r WB;have k1:=bQ r WB;rw[hgv]at c1 k1;have c3:=UJ r.tk s;rw[hu]at c3;have c4:=dJ r H.b;have k4:=PL r H.b;have c6:=zSr ⟨3,tkn,[a],[]⟩ a Z;have k6:=zAg 3 a;rw[show yB ⟨14,[],[(⟨3,tkn,[a],[]⟩:Ms).kind,a],[]⟩= .agg [iA 14,.sl false [],.sl false [iA 3,iA a],.sl false []]from Z]at c6;rw[show yB ⟨14,[],[3,a],[]⟩= .agg [iA 14,.sl false [],.sl false [iA 3,iA a],.sl false []]from Z]at k6;obtain⟨o,e,_,ho,ho8,c5,k5⟩:=CT r.tk H.b.tk a;have hls:=zA yA sec;have hlt:=zA xB r.tk;have hl1:([a].map iA).length=1:=rfl
 have hU:(r.tk.getD s.toNat default).used=true/\0<=s/\s<8:=by
  unfold eV at hu;rw[yAs,yAm]at hu;exact⟨hu.2,hu.1.1,by have:=H.n8;omega⟩
 have hn8:=H.n8;have hy:=yN xB r.tk s hU.2.1 zB;have hbR:EZ (rgT r o):=⟨ho,H.b.s,H.b.l,H.b.v⟩;obtain⟨hU,hs0,hs8⟩:=hU;clear hu H hgv;generalize r.tk.getD s.toNat default=x at *;obtain⟨xu,x1,x2,x3,x4,x5⟩:=x;dsimp only at hU;subst hU;rw[show xB ⟨true,x1,x2,x3,x4,x5⟩= .agg [bA true,zC yA x1,iA x2,iA x3,iA x4,iA x5]from Z]at hy;by_cases he:e=0
 ·subst he;refine⟨rgT r o,⟨14,[],[3,a],[]⟩,false,0,hbR,⟨yAt _,by simp,yAt _⟩,⟨λh=>absurd Z h,λ_=> .inl ⟨o,by rw[(ho8 Z).1,hn8],(ho8 Z).2,rfl,.inl ⟨rfl,rfl,rfl⟩⟩⟩,?_,?_⟩
  ·rw[show yB ⟨14,[],[3,a],[]⟩= .agg [iA 14,.sl false [],.sl false [iA 3,iA a],.sl false []]from Z]
   rcases hs with hs|hs
   all_goals
    refine eM call220 λF hF=>?_
    refine yQ (zt6 c1 m1 c3 c4 c5 c6) ?_;exact zJ
  ·rw[show yB ⟨14,[],[3,a],[]⟩= .agg [iA 14,.sl false [],.sl false [iA 3,iA a],.sl false []]from Z]
   rcases hs with hs|hs
   all_goals
    exact yF
 ·refine .bad e he ?_ ?_
  ·rw[cS]
   rcases hs with hs|hs
   all_goals
    refine eM call220 λF hF=>?_
    refine yQ (zt6 c1 m1 c3 c4 c5 c6) ?_;exact zJ
  ·rw[cS]
   rcases hs with hs|hs
   all_goals
    exact yF
def do5 (r:Rg) (hgv:gvF r=true) (tkn:List Int) (a s now:Int) (sec:List Int) (hu:eV r.tk s=true) (hs:(sec.length:Int)=0∨(sec.length:Int)=8)
  (m1:zN 195 [yB ⟨5,tkn,[a],[]⟩] [] (bA true) []) (m2:zN 98 [yB ⟨5,tkn,[a],[]⟩] [] (bA true) []):WN r ⟨5,tkn,[a],[]⟩ s now sec:=by
 have H:=zHn hgv;have c1:=YC r WB;have k1:=bQ r WB;rw[hgv]at c1 k1;have c3:=UJ r.tk s;rw[hu]at c3;have c4:=dJ r H.b;have k4:=PL r H.b;have c6:=zSr ⟨5,tkn,[a],[]⟩ a Z;have k6:=zAg 5 a;rw[show yB ⟨14,[],[(⟨5,tkn,[a],[]⟩:Ms).kind,a],[]⟩= .agg [iA 14,.sl false [],.sl false [iA 5,iA a],.sl false []]from Z]at c6;rw[show yB ⟨14,[],[5,a],[]⟩= .agg [iA 14,.sl false [],.sl false [iA 5,iA a],.sl false []]from Z]at k6;obtain⟨o,e,⟨heb,_⟩,ho,c5,k5⟩:=CR r.vh WB a;have hls:=zA yA sec;have hlt:=zA xB r.tk;have hl1:([a].map iA).length=1:=rfl
 have hU:(r.tk.getD s.toNat default).used=true/\0<=s/\s<8:=by
  unfold eV at hu;rw[yAs,yAm]at hu;exact⟨hu.2,hu.1.1,by have:=H.n8;omega⟩
 have hn8:=H.n8;have hy:=yN xB r.tk s hU.2.1 zB;have ho9:o.length<=8:=by have:=H.vl;omega
 have hbR:EZ (rgV r o):=⟨H.b.tk,H.b.s,H.b.l,by have:=H.vl;show o.length<=_;omega⟩;obtain⟨hU,hs0,hs8⟩:=hU;clear hu H hgv;generalize r.tk.getD s.toNat default=x at *;obtain⟨xu,x1,x2,x3,x4,x5⟩:=x;dsimp only at hU;subst hU;rw[show xB ⟨true,x1,x2,x3,x4,x5⟩= .agg [bA true,zC yA x1,iA x2,iA x3,iA x4,iA x5]from Z]at hy;by_cases he:e=0
 ·subst he;refine⟨rgV r o,⟨14,[],[5,a],[]⟩,false,0,hbR,⟨yAt _,by simp,yAt _⟩,⟨λh=>absurd Z h,λ_=> .inr ⟨o,ho9,rfl,rfl,.inr Z,rfl⟩⟩,?_,?_⟩
  ·rw[show yB ⟨14,[],[5,a],[]⟩= .agg [iA 14,.sl false [],.sl false [iA 5,iA a],.sl false []]from Z]
   rcases hs with hs|hs
   all_goals
    refine eM call220 λF hF=>?_
    refine yQ (zt6 c1 m1 c3 c4 c5 c6) ?_;exact zJ
  ·rw[show yB ⟨14,[],[5,a],[]⟩= .agg [iA 14,.sl false [],.sl false [iA 5,iA a],.sl false []]from Z]
   rcases hs with hs|hs
   all_goals
    exact yF
 ·refine .bad e he ?_ ?_
  ·rw[cS]
   rcases hs with hs|hs
   all_goals
    refine eM call220 λF hF=>?_
    refine yQ (zt6 c1 m1 c3 c4 c5 c6) ?_;exact zJ
  ·rw[cS]
   rcases hs with hs|hs
   all_goals
    exact yF
def EA (r:Rg) (a b s:Int) (n8:r.tk.length=8) (h0:0<=s) (h8:s<8) (o:List Vh) (e:Int) (c:zN 268 [zC vQ r.vh,wK (agC r.ag (min r.ag.cls (r.tk.getD s.toNat default).cls)),vQ ⟨a,b⟩] [] (.tup [zC vQ o,iA e]) []):
  zN 240 [qG r,zC iA [a,b],iA s] [] (.tup [zC vQ o,iA e]) []:=by
 have hlt:=zA xB r.tk;have hl1:([a,b].map iA).length=2:=rfl;have hy:=yN xB r.tk s h0 zB;generalize r.tk.getD s.toNat default=x at *;obtain⟨xu,x1,x2,x3,x4,x5⟩:=x;rw[show xB ⟨xu,x1,x2,x3,x4,x5⟩= .agg [bA xu,zC yA x1,iA x2,iA x3,iA x4,iA x5]from Z]at hy;rw[show(⟨xu,x1,x2,x3,x4,x5⟩:Tk).cls=x4 from Z]at c;have hAG:wK (agC r.ag (min r.ag.cls x4))= .agg [zC yA r.ag.sec,iA r.ag.rights,iA (min r.ag.cls x4),zC iA r.ag.lim,iA r.ag.req,iA r.ag.ses,iA r.ag.rate,iA r.ag.burst]:=rfl;rw[hAG]at c;rw[show vQ ⟨a,b⟩= .agg [iA a,iA b]from Z]at c;refine eM call240 λF hF=>?_
 refine zV c ?_;exact zJ
def do4 (r:Rg) (hgv:gvF r=true) (tkn:List Int) (a b s now:Int) (sec:List Int) (hu:eV r.tk s=true) (hs:(sec.length:Int)=0∨(sec.length:Int)=8)
  (m1:zN 195 [yB ⟨4,tkn,[a,b],[]⟩] [] (bA true) []) (m2:zN 98 [yB ⟨4,tkn,[a,b],[]⟩] [] (bA true) []):WN r ⟨4,tkn,[a,b],[]⟩ s now sec:=by
 have H:=zHn hgv;have c1:=YC r WB;have k1:=bQ r WB;rw[hgv]at c1 k1;have c3:=UJ r.tk s;rw[hu]at c3;have c4:=dJ r H.b;have k4:=PL r H.b
 have c6:zN 239 [yB ⟨4,tkn,[a,b],[]⟩] [] (yB ⟨14,[],[4,a],[]⟩) []:=by
  have hl1:([a,b].map iA).length=2:=rfl;refine eM call239 λF hF=>?_
  refine WL ?_;exact zJ
 have k6:=zAg 4 a;rw[show yB ⟨14,[],[4,a],[]⟩= .agg [iA 14,.sl false [],.sl false [iA 4,iA a],.sl false []]from Z]at c6 k6;obtain⟨o,e,⟨heb,_⟩,⟨ho,ho8⟩,cv,k5⟩:=LV r.vh WB r.ag (r.tk.getD s.toNat default).cls H.lim H.cls.2 ⟨a,b⟩;have hls:=zA yA sec;have hlt:=zA xB r.tk;have hl1:([a,b].map iA).length=2:=rfl
 have hU:(r.tk.getD s.toNat default).used=true/\0<=s/\s<8:=by
  unfold eV at hu;rw[yAs,yAm]at hu;exact⟨hu.2,hu.1.1,by have:=H.n8;omega⟩
 have hn8:=H.n8;have hy:=yN xB r.tk s hU.2.1 zB;have ho9:o.length<=8:=by have:=H.vl;omega
 have hbR:EZ (rgV r o):=⟨H.b.tk,H.b.s,H.b.l,by have:=H.vl;show o.length<=_;omega⟩;obtain⟨hU,hs0,hs8⟩:=hU;have c5:=EA r a b s hn8 hs0 hs8 o e cv;clear hu H hgv cv;generalize r.tk.getD s.toNat default=x at *;obtain⟨xu,x1,x2,x3,x4,x5⟩:=x;dsimp only at hU;subst hU;rw[show xB ⟨true,x1,x2,x3,x4,x5⟩= .agg [bA true,zC yA x1,iA x2,iA x3,iA x4,iA x5]from Z]at hy;rw[show(⟨true,x1,x2,x3,x4,x5⟩:Tk).cls=x4 from Z,show vQ ⟨a,b⟩= .agg [iA a,iA b]from Z,show wK r.ag= .agg [zC yA r.ag.sec,iA r.ag.rights,iA r.ag.cls,zC iA r.ag.lim,iA r.ag.req,iA r.ag.ses,iA r.ag.rate,iA r.ag.burst]from Z]at k5;by_cases he:e=0
 ·subst he;refine⟨rgV r o,⟨14,[],[4,a],[]⟩,false,0,hbR,⟨yAt _,by simp,yAt _⟩,⟨λh=>absurd Z h,λ_=> .inr ⟨o,ho9,rfl,rfl,.inl Z,rfl⟩⟩,?_,?_⟩
  ·rw[show yB ⟨14,[],[4,a],[]⟩= .agg [iA 14,.sl false [],.sl false [iA 4,iA a],.sl false []]from Z]
   rcases hs with hs|hs
   all_goals
    refine eM call220 λF hF=>?_
    refine yQ (zt6 c1 m1 c3 c4 c5 c6) ?_;exact zJ
  ·rw[show yB ⟨14,[],[4,a],[]⟩= .agg [iA 14,.sl false [],.sl false [iA 4,iA a],.sl false []]from Z]
   rcases hs with hs|hs
   all_goals
    exact yF
 ·refine .bad e he ?_ ?_
  ·rw[cS]
   rcases hs with hs|hs
   all_goals
    refine eM call220 λF hF=>?_
    refine yQ (zt6 c1 m1 c3 c4 c5 c6) ?_;exact zJ
  ·rw[cS]
   rcases hs with hs|hs
   all_goals
    exact yF
def zE4:AV:= .agg [iA 0,.s (.slice none 0 0),.s (.slice none 0 0),.s (.slice none 0 0)]
def zAh (r:Rg) (s R c life now e:Int) (he:¬e=0) (k:Nat) (sec:List Int)
  (c1:zN 265 [zC xB r.tk,iA s,iA R,iA c,iA life,zC yA (List.replicate 8 0),iA now] [] (.tup [.sl false [],iA k,iA e]) []):
  zN 237 [.ptr 14 0 0,zC iA [R,c,life],iA s,iA now,zC yA sec] [(14,PD r)] (.tup [zE4,iA e]) [(14,PD r)]:=by
 have hls:=zA yA sec;have hl3:([R,c,life].map iA).length=3:=rfl;unfold PD zE4;rw[show zC yA (List.replicate 8 0)= .sl false (List.replicate 8 (AV.s (.int .u8 0)))from Z]at c1;refine eM call237 λF hF=>?_
 (repeat' (first|refine WZX ?_|apply xM|apply xZ|intro hc|(refine zE ?_;first|refine SM ?_)|fail))
 refine jS (st':=⟨[(0,.ptr 14 0 0),(1,zC iA [R,c,life]),(2,iA s),(3,iA now),(4,zC yA sec),(10,.ptr 10 0 0),(11,iA 0),(12,.sl false (List.replicate 8 (AV.s (.int .u8 0))))],[(14,.box [iA r.num,zC yA r.ag.sec,iA r.ag.rights,iA r.ag.cls,zC iA r.ag.lim,iA r.ag.req,iA r.ag.ses,iA r.ag.rate,iA r.ag.burst,zC xB r.tk,zC vQ r.vh,iA r.bk.level,iA r.bk.rate,iA r.bk.burst]),(10,.box [iA 0,.s (.slice none 0 0),.s (.slice none 0 0),.s (.slice none 0 0)])]⟩) [14,10] [0,1,2,3,4,10,11,12] Z Z ?_;refine zV c1 ?_;exact zK [14] Z Z Z Z
def zAi (r:Rg) (s R c life now:Int) (k:Nat) (l1:List Tk)
  (c1:zN 265 [zC xB r.tk,iA s,iA R,iA c,iA life,zC yA (List.replicate 8 0),iA now] [] (.tup [zC xB l1,iA k,iA 0]) []):
  zN 237 [.ptr 14 0 0,zC iA [R,c,life],iA s,iA now,zC yA []] [(14,PD r)] (.tup [zE4,iA 18]) [(14,PD r)]:=by
 have hls:(([]:List Int).map yA).length=0:=rfl;have hl3:([R,c,life].map iA).length=3:=rfl;unfold PD zE4;rw[show zC yA (List.replicate 8 0)= .sl false (List.replicate 8 (AV.s (.int .u8 0)))from Z]at c1;refine eM call237 λF hF=>?_
 (repeat' (first|refine WZX ?_|apply xM|apply xZ|intro hc|(refine zE ?_;first|refine SM ?_)|fail))
 refine jS (st':=⟨[(0,.ptr 14 0 0),(1,zC iA [R,c,life]),(2,iA s),(3,iA now),(4,zC yA []),(10,.ptr 10 0 0),(11,iA 0),(12,.sl false (List.replicate 8 (AV.s (.int .u8 0))))],[(14,.box [iA r.num,zC yA r.ag.sec,iA r.ag.rights,iA r.ag.cls,zC iA r.ag.lim,iA r.ag.req,iA r.ag.ses,iA r.ag.rate,iA r.ag.burst,zC xB r.tk,zC vQ r.vh,iA r.bk.level,iA r.bk.rate,iA r.bk.burst]),(10,.box [iA 0,.s (.slice none 0 0),.s (.slice none 0 0),.s (.slice none 0 0)])]⟩) [14,10] [0,1,2,3,4,10,11,12] Z Z ?_;refine zV c1 ?_;exact zK [14] Z Z Z Z
def zAj (r:Rg) (hg:0<=r.num/\r.num<4) (s R c life now:Int) (sec:List Int) (hs:(sec.length:Int)=8) (k:Nat) (hk8:k<8) (l1 l2:List Tk)
  (c1:zN 265 [zC xB r.tk,iA s,iA R,iA c,iA life,zC yA (List.replicate 8 0),iA now] [] (.tup [zC xB l1,iA k,iA 0]) [])
  (c2:zN 265 [zC xB r.tk,iA s,iA R,iA c,iA life,zC yA sec,iA now] [] (.tup [zC xB l2,iA k,iA 0]) []):
  zN 237 [.ptr 14 0 0,zC iA [R,c,life],iA s,iA now,zC yA sec] [(14,PD r)] (.tup [.agg [iA 16,.s (.slice none 0 0),.sl false [iA k],zC yA (r.num::(k:Int)::sec)],iA 0]) [(14,PD (rgT r l2))]:=by
 have c3:=zHs r.num k sec zB zB zB zB zB;have hls:=zA yA sec;have hl3:([R,c,life].map iA).length=3:=rfl;unfold PD rgT;dsimp only;generalize r.num::(k:Int)::sec=by1 at *;rw[show zC yA (List.replicate 8 0)= .sl false (List.replicate 8 (AV.s (.int .u8 0)))from Z]at c1;refine eM call237 λF hF=>?_
 (repeat' (first|refine WZX ?_|apply xM|apply xZ|intro hc|(refine zE ?_;first|refine SM ?_)|fail))
 refine jS (st':=⟨[(0,.ptr 14 0 0),(1,zC iA [R,c,life]),(2,iA s),(3,iA now),(4,zC yA sec),(10,.ptr 10 0 0),(11,iA 0),(12,.sl false (List.replicate 8 (AV.s (.int .u8 0))))],[(14,.box [iA r.num,zC yA r.ag.sec,iA r.ag.rights,iA r.ag.cls,zC iA r.ag.lim,iA r.ag.req,iA r.ag.ses,iA r.ag.rate,iA r.ag.burst,zC xB r.tk,zC vQ r.vh,iA r.bk.level,iA r.bk.rate,iA r.bk.burst]),(10,.box [iA 0,.s (.slice none 0 0),.s (.slice none 0 0),.s (.slice none 0 0)])]⟩) [14,10] [0,1,2,3,4,10,11,12] Z Z ?_;refine yQ (gG c1 c2 c3) ?_;exact zK [14] Z Z Z Z
def EB (r:Rg) (n8:r.tk.length=8) (tkn:List Int) (R c life s now:Int) (hs0:0<=s) (hs8:s<8) (x1:List Int) (x2 x3 x4 x5:Int) (hy:(r.tk.map xB)[s.toNat]? =some (.agg [bA true,zC yA x1,iA x2,iA x3,iA x4,iA x5])) (k:Nat) (e f:Int) (hf:(e=0/\f=18)∨(¬e=0/\f=e)) (l1:List Tk)
 (k1:yY [qG r] [] (bA true) []) (m2:zN 98 [yB ⟨2,tkn,[R,c,life],[]⟩] [] (bA true) []) (k4:yY [qG r] [] (qG r) [])
 (e1:yY [zC xB r.tk,iA s,iA R,iA c,iA life,zC yA (List.replicate 8 0),iA now] [] (.tup [zC xB l1,iA k,iA e]) []) (kb:zN 51 [iA r.num,iA k,zC yA []] [] (zC yA (r.num::(k:Int)::[])) []):
 yY [qG r,yB ⟨2,tkn,[R,c,life],[]⟩,iA s,iA now,zC yA []] [] (doR f) []:=yF
def EC (r:Rg) (n8:r.tk.length=8) (tkn:List Int) (R c life s now:Int) (sec:List Int) (hsl:(sec.length:Int)=8) (hs0:0<=s) (hs8:s<8) (x1:List Int) (x2 x3 x4 x5:Int) (hy:(r.tk.map xB)[s.toNat]? =some (.agg [bA true,zC yA x1,iA x2,iA x3,iA x4,iA x5])) (k:Nat) (e:Int) (l1:List Tk)
 (k1:yY [qG r] [] (bA true) []) (m2:zN 98 [yB ⟨2,tkn,[R,c,life],[]⟩] [] (bA true) []) (k4:yY [qG r] [] (qG r) [])
 (e1:yY [zC xB r.tk,iA s,iA R,iA c,iA life,zC yA sec,iA now] [] (.tup [zC xB l1,iA k,iA e]) []) (kb:zN 51 [iA r.num,iA k,zC yA sec] [] (zC yA (r.num::(k:Int)::sec)) []):
 yY [qG r,yB ⟨2,tkn,[R,c,life],[]⟩,iA s,iA now,zC yA sec] [] (if e=0 then .tup [qG (rgT r l1),yB ⟨16,[],[(k:Int)],r.num::(k:Int)::sec⟩,bA true,iA 0]else doR e) []:=yF
def zN8:∀a b:_root_.Fin 64,(gR a.val b.val==(a.val:Int))=true->(gR b.val 16==(16:Int))=false->(gR a.val 16==(16:Int))=false:=by decide +kernel
def zW7 {a b:Int} (h:wiF a b=true) (k:peF b 10=false):peF a 10=false:=by
 unfold wiF FG at h;simp only[yAs,yAm]at h;obtain⟨⟨⟨a0,a1⟩,b0,b1⟩,h⟩:=h;obtain⟨m,rfl⟩:=yCa a0;obtain⟨n,rfl⟩:=yCa b0;have e:AS 10=16:=by decide
 unfold peF FG at k⊢;rw[e]at k⊢;rw[yAj ⟨b0,b1⟩,yA3]at k;rw[zN8 ⟨m,zB⟩ ⟨n,zB⟩ h k,yD5]
theorem do2 (r:Rg) (hgv:gvF r=true) (tkn:List Int) (R c life s now:Int) (sec:List Int) (hu:eV r.tk s=true) (hs:(sec.length:Int)=0∨(sec.length:Int)=8)
  (m1:zN 195 [yB ⟨2,tkn,[R,c,life],[]⟩] [] (bA true) []) (m2:zN 98 [yB ⟨2,tkn,[R,c,life],[]⟩] [] (bA true) []):WN r ⟨2,tkn,[R,c,life],[]⟩ s now sec:=by
 have H:=zHn hgv;have c1:=YC r WB;have k1:=bQ r WB;rw[hgv]at c1 k1;have c3:=UJ r.tk s;rw[hu]at c3;have c4:=dJ r H.b;have k4:=PL r H.b;obtain⟨k,e,_,hk,hkf,hD⟩:=CS r.tk H.b.tk s R c life now;have hn8:=H.n8
 have hk8:k<8:=by rcases hk with h|h<;>omega
 have hT0:e=0->∀y til,T0K r.tk (FL r.tk k e ⟨true,y,s,R,c,til⟩):=λhe y til=>λh t ht hu=>by
  obtain⟨_,p0,p1,_,p2,p3⟩:=hkf he;unfold FL at ht;rw[yAd he]at ht
  rcases yC8 ht with ht|rfl
  ·exact h t ht hu
  ·exact zW7 p2 (h _ (zQ r.tk s.toNat zB) p3)
 clear hkf;have kb:=ZN r.num k sec zB H.num.1 (by have:=H.num;omega) zB zB;have hnum:=H.num;have hls:=zA yA sec;have hlt:=zA xB r.tk;have hl1:([R,c,life].map iA).length=3:=rfl
 have hU:(r.tk.getD s.toNat default).used=true/\0<=s/\s<8:=by
  unfold eV at hu;rw[yAs,yAm]at hu;exact⟨hu.2,hu.1.1,zB⟩
 have hy:=yN xB r.tk s hU.2.1 zB;have hbR:∀t:Tk,t.sec.length<=1000000->EZ (rgT r (FL r.tk k e t)):=λt ht=>⟨zTn H.b.tk k e t ht,H.b.s,H.b.l,H.b.v⟩
 obtain⟨hU,hs0,hs8⟩:=hU;clear hu H hgv hk;generalize r.tk.getD s.toNat default=x at *;obtain⟨xu,x1,x2,x3,x4,x5⟩:=x;dsimp only at hU;subst hU;rw[show xB ⟨true,x1,x2,x3,x4,x5⟩= .agg [bA true,zC yA x1,iA x2,iA x3,iA x4,iA x5]from Z]at hy;obtain⟨d1,e1⟩:=hD (List.replicate 8 0) Z;by_cases he:e=0
 ·subst he
  rcases hs with hs|hs
  ·
   have hs:=yBb (show sec.length=0 by omega);subst hs;have R1:=EB r hn8 tkn R c life s now hs0 hs8 x1 x2 x3 x4 x5 hy k 0 18 (.inl ⟨rfl,rfl⟩) _ k1 m2 k4 e1 kb;refine .bad 18 xL ?_ R1;clear R1;generalize FL r.tk k 0 ⟨true,List.replicate 8 0,s,R,c,AU life now⟩=l1 at *;have c5:=zAi r s R c life now k l1 d1;unfold PD zE4 at c5;clear hD hbR;rw[cS];refine eM call220 λF hF=>?_
   refine yQ (zt5 c1 m1 c3 c4 c5) ?_;exact zJ
  ·obtain⟨d2,e2⟩:=hD sec hs;have R1:=EC r hn8 tkn R c life s now sec hs hs0 hs8 x1 x2 x3 x4 x5 hy k 0 _ k1 m2 k4 e2 kb;rw[yAd Z]at R1;refine⟨rgT r (FL r.tk k 0 ⟨true,sec,s,R,c,AU life now⟩),⟨16,[],[(k:Int)],r.num::(k:Int)::sec⟩,true,0,hbR _ (by show sec.length<=_;omega),⟨yAt _,by simp,by simp;omega⟩,⟨λh=>absurd Z h,λ_=> .inl ⟨_,by rw[FL,yAd Z,yB7];exact hn8,hT0 Z _ _,rfl,.inr ⟨rfl,zB,rfl,k,hk8,rfl⟩⟩⟩,?_,R1⟩;clear R1;generalize FL r.tk k 0 ⟨true,List.replicate 8 0,s,R,c,AU life now⟩=l1 at *;generalize FL r.tk k 0 ⟨true,sec,s,R,c,AU life now⟩=l2 at *;have c5:=zAj r hnum s R c life now sec hs k hk8 l1 l2 d1 d2;unfold PD at c5;clear hD hbR;rw[show yB ⟨16,[],[(k:Int)],r.num::(k:Int)::sec⟩= .agg [iA 16,.sl false [],.sl false [iA (k:Int)],zC yA (r.num::(k:Int)::sec)]from Z];generalize r.num::(k:Int)::sec=by1 at *;refine eM call220 λF hF=>?_
   refine yQ (zt5 c1 m1 c3 c4 c5) ?_;exact zJ
 ·have hno:∀t,FL r.tk k e t=[]:=λt=>by unfold FL;rw[yAc he]
  have d1':=d1;rw[hno]at d1';have c5:=zAh r s R c life now e he k sec d1';unfold PD zE4 at c5
  have R1:yY [qG r,yB ⟨2,tkn,[R,c,life],[]⟩,iA s,iA now,zC yA sec] [] (doR e) []:=by
   rcases hs with hs|hs
   ·have hs:=yBb (show sec.length=0 by omega);subst hs;exact EB r hn8 tkn R c life s now hs0 hs8 x1 x2 x3 x4 x5 hy k e e (.inr ⟨he,rfl⟩) _ k1 m2 k4 e1 kb
   ·obtain⟨d2,e2⟩:=hD sec hs;have R1:=EC r hn8 tkn R c life s now sec hs hs0 hs8 x1 x2 x3 x4 x5 hy k e _ k1 m2 k4 e2 kb;rw[yAc he]at R1;exact R1
  refine .bad e he ?_ R1;clear R1 hD hbR hno e1 d1 d1';rw[cS]
  rcases hs with hs|hs
  all_goals
   refine eM call220 λF hF=>?_
   refine yQ (zt5 c1 m1 c3 c4 c5) ?_;exact zJ
def zHq (r:Rg) (m:Ms) (s now:Int) (sec:List Int) (c1:zN 235 [qG r] [] (bA true) []) (c2:zN 195 [yB m] [] (bA true) []) (c3:zN 236 [zC xB r.tk,iA s] [] (bA true) []) (c4:zN 173 [qG r] [] (qG r) []) (hs:(sec.length:Int)=0∨(sec.length:Int)=8)
  (h2:¬m.kind=2) (h3:¬m.kind=3) (h4:¬m.kind=4) (h5:¬m.kind=5):zN 220 [qG r,yB m,iA s,iA now,zC yA sec] [] (doR 1) []:=by
 rw[cS];have hls:=zA yA sec
 rcases hs with hs|hs
 all_goals
  refine eM call220 λF hF=>?_
  refine yQ (ZB c1 c2 c3 c4) ?_;exact zJ
def zE5 {l:List Int} (h:l.length=1):∃a,l=[a]:=by
 match l,h with
 | [a],_=>exact⟨a,rfl⟩
def zZd {l:List Int} (h:l.length=2):∃a b,l=[a,b]:=by
 match l,h with
 | [a,b],_=>exact⟨a,b,rfl⟩
def zZe {l:List Int} (h:l.length=3):∃a b c,l=[a,b,c]:=by
 match l,h with
 | [a,b,c],_=>exact⟨a,b,c,rfl⟩
theorem zN9 (r:Rg) (hv:r.vh.length<=1000) (m:Ms) (hm:MsB m) (s now:Int) (sec:List Int) (hs:sec.length<=1000):WN r m s now sec:=by
 have c1:=YC r zB;have k1:=bQ r zB;obtain⟨b,c2,hb⟩:=zHw m hm;have c3:=UJ r.tk s
 cases hg:gvF r with
 |false=>
  rw[hg]at c1 k1;exact .bad 1 xL (WM r m s now sec false b _ c1 c2 c3 (.inl Z) hs) (zHo r m s now sec k1)
 |true=>
 have H:=zHn hg;rw[hg]at c1 k1;by_cases hk:m.kind=2∨m.kind=3∨m.kind=4∨m.kind=5
 case neg=>
  have h2:¬m.kind=2:=λh=>hk (.inl h)
  have h3:¬m.kind=3:=λh=>hk (.inr (.inl h))
  have h4:¬m.kind=4:=λh=>hk (.inr (.inr (.inl h)))
  have h5:¬m.kind=5:=λh=>hk (.inr (.inr (.inr h)))
  refine .bad 1 xL ?_ (zHp r m s now sec k1 h2 h3 h4 h5)
  cases b with
  |false=>exact WM r m s now sec true false _ c1 c2 c3 (.inr (.inl Z)) hs
  |true=>
  cases hu:eV r.tk s with
  |false=>exact WM r m s now sec true true _ c1 c2 c3 (.inr (.inr (.inl hu))) hs
  |true=>
  rw[hu]at c3;by_cases hsl:(sec.length:Int)=0∨(sec.length:Int)=8
  ·exact zHq r m s now sec c1 c2 c3 (dJ r H.b) hsl h2 h3 h4 h5
  ·exact WM r m s now sec true true true c1 c2 c3 (.inr (.inr (.inr ⟨λh=>hsl (.inl h),λh=>hsl (.inr h)⟩))) hs
 obtain⟨f,hf⟩:∃f,kdP m.kind f:=by
  unfold kdP
  rcases hk with h|h|h|h
  ·exact⟨3,.inl ⟨h,rfl⟩⟩
  ·exact⟨1,.inr (.inl ⟨h,rfl⟩)⟩
  ·exact⟨2,.inr (.inr (.inl ⟨h,rfl⟩))⟩
  ·exact⟨1,.inr (.inr (.inr ⟨h,rfl⟩))⟩
 obtain⟨b',k2,hb'⟩:=zE6 m hm f hf
 have hbb:b'=b:=by
  have h1:=hb f hf
  cases b<;>cases b'<;>simp_all
 subst hbb;have h1:=hb f hf
 cases b' with
 |false=>exact .bad 1 xL (WM r m s now sec true false _ c1 c2 c3 (.inr (.inl Z)) hs) (OO r m s now sec H.n8 false k1 k2 hk (.inl Z) hs)
 |true=>
 cases hu:eV r.tk s with
 |false=>exact .bad 1 xL (WM r m s now sec true true _ c1 c2 c3 (.inr (.inr (.inl hu))) hs) (OO r m s now sec H.n8 true k1 k2 hk (.inr (.inl hu)) hs)
 |true=>
 by_cases hsl:(sec.length:Int)=0∨(sec.length:Int)=8
 case neg=>
  have hq:¬(sec.length:Int)=0/\¬(sec.length:Int)=8:=⟨λh=>hsl (.inl h),λh=>hsl (.inr h)⟩;exact .bad 1 xL (WM r m s now sec true true _ c1 c2 c3 (.inr (.inr (.inr hq))) hs) (OO r m s now sec H.n8 true k1 k2 hk (.inr (.inr hq)) hs)
 obtain⟨_,hd,hal,_⟩:=h1.1 Z;obtain⟨mk,tkn,ar,da⟩:=m;dsimp only at hd hal hf;subst hd
 rcases hf with⟨rfl,rfl⟩|⟨rfl,rfl⟩|⟨rfl,rfl⟩|⟨rfl,rfl⟩
 ·obtain⟨x,y,z,rfl⟩:=zZe hal;exact do2 r hg tkn x y z s now sec hu hsl c2 k2
 ·obtain⟨x,rfl⟩:=zE5 hal;exact do3 r hg tkn x s now sec hu hsl c2 k2
 ·obtain⟨x,y,rfl⟩:=zZd hal;exact do4 r hg tkn x y s now sec hu hsl c2 k2
 ·obtain⟨x,rfl⟩:=zE5 hal;exact do5 r hg tkn x s now sec hu hsl c2 k2
def dgD (d:xJ) (m:Ms) (r':Rg) (u:Bool) (e:Int):xJ:=if e=0 then⟨r',(if m.kind=5 then DB d.rq (m.args.getD 0 0)else d.rq),(if u=true then d.dr.drop 1 else d.dr),d.au⟩else d
def LJ (d:xJ):List Int:=d.dr.headD []
def zTo (d:xJ) (m:Ms) (slot now:Int) (hv:ZL d.rq) (hn:d.dr.length<=1000) (r':Rg) (p:Ms) (u:Bool) (e:Int)
  (f1:zN 220 [qG d.rg,yB m,iA slot,iA now,zC yA (LJ d)] [] (.tup [qG r',yB p,bA u,iA e]) []) (h5:m.kind=5->∃a,m.args=[a]):
  zN 201 [zL d,yB m,iA slot,iA now] [] (.tup [zL (dgD d m r' u e),yB (if e=0 then p else PI),iA e]) []:=by
 unfold dgD;obtain⟨rg,rq,dr,au⟩:=d;obtain⟨k,tk0,ar,da⟩:=m;unfold LJ at f1;dsimp only at *;have hlr:(dr.map qR).length=dr.length:=zA qR dr
 cases dr with
 | nil=>
  rw[List.headD_nil]at f1;by_cases he:e=0
  ·subst he;rw[yAd Z,yAd Z];by_cases hk:k=5
   ·subst hk;obtain⟨a,rfl⟩:=h5 Z;have hw:=KN rq a hv;rw[yAd Z,show([a]:List Int).getD 0 0=a from Z];generalize DB rq a=ql at *;unfold qG yB at f1;unfold zL wJ yB;cases u
    ·(refine eM call201 λF hF=>?_)
     refine yQ (wV f1 hw) ?_;exact zJ
    ·(refine eM call201 λF hF=>?_)
     refine yQ (wV f1 hw) ?_;exact zJ
   ·rw[yAc hk];clear h5;unfold qG yB at f1;unfold zL wJ yB;cases u
    ·(refine eM call201 λF hF=>?_)
     refine zV f1 ?_;exact zJ
    ·(refine eM call201 λF hF=>?_)
     refine zV f1 ?_;exact zJ
  ·rw[yAc he,yAc he];clear h5;unfold qG yB at f1;unfold zL wJ yB PI;refine eM call201 λF hF=>?_
   refine zV f1 ?_;exact zJ
 | cons b bs=>
  rw[List.headD_cons]at f1;have hlr:(qR b::bs.map qR).length=bs.length+1:=by rw[yAp,yAe]
  rw[yAp]at hn;have hbb:zC qR (b::bs)= .sl false (qR b::bs.map qR):=rfl;by_cases he:e=0
  ·subst he;rw[yAd Z,yAd Z];by_cases hk:k=5
   ·subst hk;obtain⟨a,rfl⟩:=h5 Z;have hw:=KN rq a hv;rw[yAd Z,show([a]:List Int).getD 0 0=a from Z];generalize DB rq a=ql at *;unfold qG yB at f1;unfold zL wJ yB;rw[hbb];cases u
    ·(refine eM call201 λF hF=>?_)
     refine yQ (wV f1 hw) ?_;exact zJ
    ·(refine eM call201 λF hF=>?_)
     refine yQ (wV f1 hw) ?_;exact zJ
   ·rw[yAc hk];clear h5;unfold qG yB at f1;unfold zL wJ yB;rw[hbb];cases u
    ·(refine eM call201 λF hF=>?_)
     refine zV f1 ?_;exact zJ
    ·(refine eM call201 λF hF=>?_)
     refine zV f1 ?_;exact zJ
  ·rw[yAc he,yAc he];clear h5;unfold qG yB at f1;unfold zL wJ yB PI;rw[hbb];refine eM call201 λF hF=>?_
   refine zV f1 ?_;exact zJ
def zOa (d:xJ) (m:Ms) (slot now:Int) (hv:ZL d.rq) (hn:d.dr.length<=1000) (r':Rg) (p:Ms) (u:Bool) (e:Int)
 (f1:yY [qG d.rg,yB m,iA slot,iA now,zC yA (LJ d)] [] (.tup [qG r',yB p,bA u,iA e]) []) (h5:m.kind=5->∃a,m.args=[a]) (hu:u=true->d.dr≠[]):
 yY [zL d,yB m,iA slot,iA now] [] (.tup [zL (dgD d m r' u e),yB p,iA e]) []:=yF
structure It where
 code:Int
 kind:Int
 pay:List Int
def wI (i:It):AV:= .agg [iA i.code,iA i.kind,zC yA i.pay]
def hT (d:xJ) (p:Ms) (k e:Int):AV:= .tup [zL d,yB p,iA k,iA e]
def zOb (c:Cf) (d:xJ) (s now:Int) (i:It) (hc:i.code≠0):zN 170 [wD c,zL d,iA s,wI i,iA now] [] (hT d PI (-1) i.code) []:=by
 unfold wD hT zL wJ wI yB PI;refine eM call170 λF hF=>?_
 refine WW ?_;exact zJ
def zOc (c:Cf) (d:xJ) (s now:Int) (i:It) (hc:i.code=0) (hk:¬(1<=i.kind/\i.kind<=12)):zN 170 [wD c,zL d,iA s,wI i,iA now] [] (hT d PI (-1) 5) []:=by
 have k1:=fS i.kind;rw[yAl hk]at k1;obtain⟨co,ki,pa⟩:=i;dsimp only at *;subst hc;unfold wD hT zL wJ wI yB PI;refine eM call170 λF hF=>?_
 refine zV k1 ?_;exact zJ
def zOd (c:Cf) (d:xJ) (s now k:Int) (pa:List Int) (h0:1<=k) (h1:k<=12) (k2:zN 69 [iA k,zC yA pa] [] (deT k (pa.take 10) none) []):zN 170 [wD c,zL d,iA s,wI ⟨0,k,pa⟩,iA now] [] (hT d PI (-1) 6) []:=by
 have k1:=fS k;rw[yAj ⟨h0,h1⟩]at k1;unfold deT yB at k2;unfold wD hT zL wJ wI yB PI;refine eM call170 λF hF=>?_
 refine yQ (wV k1 k2) ?_;exact zJ
def zOe (c:Cf) (d:xJ) (s now k:Int) (pa tk0 ar:List Int) (h0:1<=k) (h1:k<=12) (k2:zN 69 [iA k,zC yA pa] [] (.tup [yB ⟨k,tk0,ar,[]⟩,iA 0]) []) (r:Rg) (sl e:Int) (he:e≠0)
  (k3:zN 200 [qG d.rg,yB ⟨k,tk0,ar,[]⟩,iA now] [] (.tup [qG r,iA sl,iA e]) []):zN 170 [wD c,zL d,iA s,wI ⟨0,k,pa⟩,iA now] [] (hT d PI (-1) e) []:=by
 have k1:=fS k;rw[yAj ⟨h0,h1⟩]at k1;unfold yB at k2 k3;unfold qG at k3;unfold wD hT zL wJ wI yB PI;refine eM call170 λF hF=>?_
 refine yQ (gG k1 k2 k3) ?_;exact zJ
def wB (d:xJ) (r:Rg):xJ:=⟨r,d.rq,d.dr,d.au⟩
section
variable (c:Cf) (d:xJ) (s now k:Int) (pa tk0 ar:List Int) (h0:1<=k) (h1:k<=12) (k2:zN 69 [iA k,zC yA pa] [] (.tup [yB ⟨k,tk0,ar,[]⟩,iA 0]) []) (r:Rg) (sl:Int)
 (k3:zN 200 [qG d.rg,yB ⟨k,tk0,ar,[]⟩,iA now] [] (.tup [qG r,iA sl,iA 0]) [])
include h0 h1 k2 k3
def zTp (hk:k=2∨k=3∨k=4∨k=5) (d':xJ) (p:Ms) (e:Int) (k4:zN 201 [zL (wB d r),yB ⟨k,tk0,ar,[]⟩,iA sl,iA now] [] (.tup [zL d',yB p,iA e]) []):
  zN 170 [wD c,zL d,iA s,wI ⟨0,k,pa⟩,iA now] [] (hT d' p (-1) e) []:=by
 have k1:=fS k;rw[yAj ⟨h0,h1⟩]at k1;unfold yB at k2 k3 k4;unfold qG at k3;unfold wB zL wJ at k4;unfold wD hT zL wJ wI yB
 rcases hk with rfl|rfl|rfl|rfl
 all_goals
  refine eM call170 λF hF=>?_
  refine yQ (ZB k1 k2 k3 k4) ?_;exact zJ
def JY (hk:k=6∨k=7∨k=8) (l:List Rq) (e:Int) (he:e≠0) (k4:zN 202 [wD c,zL (wB d r),yB ⟨k,tk0,ar,[]⟩,iA sl,iA now] [] (.tup [zC yL l,iA e]) []):
  zN 170 [wD c,zL d,iA s,wI ⟨0,k,pa⟩,iA now] [] (hT (wB d r) PI (-1) e) []:=by
 have k1:=fS k;rw[yAj ⟨h0,h1⟩]at k1;unfold yB at k2 k3 k4;unfold qG at k3;unfold wB wD zL wJ at k4;unfold wB wD hT zL wJ wI yB PI
 rcases hk with rfl|rfl|rfl
 all_goals
  refine eM call170 λF hF=>?_
  refine yQ (ZB k1 k2 k3 k4) ?_;exact zJ
def JZ (hk:k=6∨k=7∨k=8) (a:Int) (as1:List Int) (har:ar=a::as1) (l:List Rq) (k4:zN 202 [wD c,zL (wB d r),yB ⟨k,tk0,ar,[]⟩,iA sl,iA now] [] (.tup [zC yL l,iA 0]) []):
  zN 170 [wD c,zL d,iA s,wI ⟨0,k,pa⟩,iA now] [] (hT (dkQ (wB d r) l) (gE k a) (-1) 0) []:=by
 subst har;have k1:=fS k;have k5:=IL k a;rw[yAj ⟨h0,h1⟩]at k1;unfold gE yB at k5;rw[show yB ⟨k,tk0,a::as1,[]⟩= .agg [iA k,zC yA tk0,.sl false (iA a::as1.map iA),.sl false []]from Z]at k2 k3 k4;generalize as1.map iA=A at *;unfold qG at k3;unfold wB wD zL wJ at k4;unfold dkQ wB wD hT zL wJ wI gE yB
 rcases hk with rfl|rfl|rfl
 all_goals
  refine eM call170 λF hF=>?_
  refine yQ (zt5 k1 k2 k3 k4 k5) ?_;exact zJ
def IA (hk:k=1∨k=9∨k=12) (p:Ms) (k4:zN 204 [zL (wB d r),iA k,iA now] [] (yB p) []):
  zN 170 [wD c,zL d,iA s,wI ⟨0,k,pa⟩,iA now] [] (hT (wB d r) p (-1) 0) []:=by
 have k1:=fS k;rw[yAj ⟨h0,h1⟩]at k1;unfold yB at k2 k3 k4;unfold qG at k3;unfold wB zL wJ at k4;unfold wB wD hT zL wJ wI yB
 rcases hk with rfl|rfl|rfl
 all_goals
  refine eM call170 λF hF=>?_
  refine yQ (ZB k1 k2 k3 k4) ?_;exact zJ
theorem zOf (hk:k=11) (a:Int) (har:ar=[a]) (ha:(c.js.length:Int)<=a):
  zN 170 [wD c,zL d,iA s,wI ⟨0,k,pa⟩,iA now] [] (hT (wB d r) PI (-1) 8) []:=by
 subst hk har;have k1:=fS 11;have hlj:=zA wC c.js;rw[show yB ⟨11,tk0,[a],[]⟩= .agg [iA 11,zC yA tk0,.sl false [iA a],.sl false []]from Z]at k2 k3;unfold qG at k3;unfold wB wD hT zL wJ wI PI yB;refine eM call170 λF hF=>?_
 refine yQ (gG k1 k2 k3) ?_;exact zJ
theorem zOg (hk:k=11) (a:Int) (har:ar=[a]) (ha:a<(c.js.length:Int)):
  zN 170 [wD c,zL d,iA s,wI ⟨0,k,pa⟩,iA now] [] (hT (wB d r) (gE 11 a) a 0) []:=by
 subst hk har;have k1:=fS 11;have k5:=IL 11 a;have hlj:=zA wC c.js;unfold gE yB at k5;rw[show yB ⟨11,tk0,[a],[]⟩= .agg [iA 11,zC yA tk0,.sl false [iA a],.sl false []]from Z]at k2 k3;unfold qG at k3;unfold wB wD hT zL wJ wI gE yB;refine eM call170 λF hF=>?_
 refine yQ (ZB k1 k2 k3 k5) ?_;exact zJ
theorem zOh (hk:k=10) (a:Int) (har:ar=[a]) (ha:1<a):
  zN 170 [wD c,zL d,iA s,wI ⟨0,k,pa⟩,iA now] [] (hT (wB d r) PI (-1) 8) []:=by
 subst hk har;have k1:=fS 10;rw[show yB ⟨10,tk0,[a],[]⟩= .agg [iA 10,zC yA tk0,.sl false [iA a],.sl false []]from Z]at k2 k3;unfold qG at k3;unfold wB wD hT zL wJ wI PI yB;refine eM call170 λF hF=>?_
 refine yQ (gG k1 k2 k3) ?_;exact zJ
theorem zOi (hk:k=10) (a:Int) (har:ar=[a]) (ha:a<=1) (hs:¬(0<=s/\s<(d.au.length:Int))):
  zN 170 [wD c,zL d,iA s,wI ⟨0,k,pa⟩,iA now] [] (hT (wB d r) (gE 10 a) (-1) 0) []:=by
 subst hk har;have k1:=fS 10;have k5:=IL 10 a;have hla:=zA bA d.au;unfold gE yB at k5;rw[show yB ⟨10,tk0,[a],[]⟩= .agg [iA 10,zC yA tk0,.sl false [iA a],.sl false []]from Z]at k2 k3;unfold qG at k3;unfold wB wD hT zL wJ wI gE yB;by_cases h2:0<=s
 ·have h3:(d.au.length:Int)<=s:=by omega
  refine eM call170 λF hF=>?_
  refine yQ (ZB k1 k2 k3 k5) ?_;exact zJ
 ·(refine eM call170 λF hF=>?_)
  refine yQ (ZB k1 k2 k3 k5) ?_;exact zJ
end
def dG (b:List Int):Nat:=(b.getD 4 0).toNat*256+(b.getD 5 0).toNat
def UG (b:List Int):Option (It×Nat):=
 if b.length=0 then none
 else if b.getD 0 0≠90∨(1<b.length/\b.getD 1 0≠165)then some (⟨2,0,[]⟩,1)
 else if b.length<6 then none
 else if 200<dG b then some (⟨7,0,[]⟩,1)
 else if b.length<dG b+10 then none
 else if gN ((b.drop 2).take (dG b+4))≠XS ((b.drop (dG b+6)).take 4)then some (⟨4,0,[]⟩,1)
 else if b.getD 2 0≠1 then some (⟨3,0,[]⟩,dG b+10)
 else if b.getD 3 0<1∨22<b.getD 3 0 then some (⟨5,0,[]⟩,dG b+10)
 else some (⟨0,b.getD 3 0,(b.drop 6).take (dG b)⟩,dG b+10)
def zHr (o:Option (It×Nat)):AV:=match o with
 |none=> .tup [wI ⟨0,0,[]⟩,iA 0,bA false]
 |some x=> .tup [wI x.1,iA x.2,bA true]
def or8 {x y:Int} (hx:0<=x/\x<256) (hy:0<=y/\y<256):orI (IntKind.i64.wrap (x*2 ^ (min (8:Int).toNat IntKind.i64.bits))) y=x*256+y:=by
 have h1:IntKind.i64.wrap (x*2 ^ (min (8:Int).toNat IntKind.i64.bits))=x*256:=by
  rw[show x*2 ^ (min (8:Int).toNat IntKind.i64.bits)=x*256 from Z];exact kG (k:= .i64) ⟨by show -9223372036854775808<=_;omega,by show _<=9223372036854775807;omega⟩
 rw[h1];obtain⟨a,rfl⟩:=yCa hx.1;obtain⟨c,rfl⟩:=yCa hy.1;have h2:=HA (a*256) c zB zB;have h3:=yEb (show c<2 ^ 8 by omega) a;rw[yFm]at h3;rw[show((a:Int)*256)=((a*256:Nat):Int) by omega,h2,<-h3];omega
def AO (b:List Int) (hb:BY b) (i:Nat) (hi:i<b.length):(b.map yA)[i]? =some (yA (b.getD i 0))/\0<=b.getD i 0/\b.getD i 0<256:=by
 have e:b.getD i 0=b[i]:=by simp[List.getD,hi]
 refine⟨by rw[yAi,yAr hi,e];rfl,?_⟩;rw[e];exact hb _ (yDa hi)
section
variable (b:List Int) (hb:BY b) (hl:b.length<=1000000)
include hb hl
theorem zCv:zN 102 [zC yA b] [] (zHr (UG b)) []:=by
 have hlb:=zA yA b;unfold UG;by_cases h0:b.length=0
 ·rw[yAd h0];refine eM call102 λF hF=>?_
  refine WW ?_;exact zJ
 rw[yAc h0];obtain⟨y0,z0⟩:=AO b hb 0 zB;by_cases h1:b.getD 0 0=90
 case neg=>
  rw[yAd (.inl h1)];generalize b.getD 0 0=x0 at *;refine eM call102 λF hF=>?_
  refine WW ?_;exact zJ
 by_cases h2:1<b.length
 case neg=>
  rw[yAc (λh=>h.elim (λh=>h h1) (λh=>h2 h.1)),yAd zB];rw[h1]at y0;refine eM call102 λF hF=>?_
  refine WW ?_;exact zJ
 obtain⟨y1,z1⟩:=AO b hb 1 h2;by_cases h3:b.getD 1 0=165
 case neg=>
  rw[yAd (.inr ⟨h2,h3⟩)];rw[h1]at y0;generalize b.getD 1 0=x1 at *;refine eM call102 λF hF=>?_
  refine WW ?_;exact zJ
 rw[yAc (λh=>h.elim (λh=>h h1) (λh=>h.2 h3))];rw[h1]at y0;rw[h3]at y1;clear z0 z1 h1 h3;by_cases h4:b.length<6
 ·rw[yAd h4];refine eM call102 λF hF=>?_
  refine WW ?_;exact zJ
 rw[yAc h4];obtain⟨y4,z4⟩:=AO b hb 4 zB;obtain⟨y5,z5⟩:=AO b hb 5 zB;have hor:=or8 z4 z5;have hpn:b.getD 4 0*256+b.getD 5 0=(dG b:Int):=by unfold dG;omega
 rw[hpn]at hor;generalize b.getD 4 0=x4 at *;generalize b.getD 5 0=x5 at *;generalize hN:dG b=N at *;by_cases h6:200<N
 ·rw[yAd h6];refine eM call102 λF hF=>?_
  refine WW ?_;exact zJ
 rw[yAc h6];have kz:=zC9 (N:Int) zB zB;by_cases h7:b.length<N+10
 ·rw[yAd h7];refine eM call102 λF hF=>?_
  (repeat' (first|refine uP ?_|apply xM|apply xZ|intro hc|(refine zE ?_;first|refine SM ?_)|fail))
  rw[hor];refine zV kz ?_;exact zJ
 rw[yAc h7];have bd:∀i k,BY ((b.drop i).take k):=λi k x hx=>hb x (yBc (yBy hx))
 have kc:=zSg ((b.drop 2).take (N+4)) zJx (bd _ _);have kn:=zJa ((b.drop (N+6)).take 4) zJx (bd _ _)
 have e1:((b.map yA).drop (2:Int).toNat).take ((6+(N:Int)).toNat-(2:Int).toNat)=((b.drop 2).take (N+4)).map yA:=by
  rw[yDh,yDg,show(6+(N:Int)).toNat-(2:Int).toNat=N+4 by omega];rfl
 have e2:((b.map yA).drop (6+(N:Int)).toNat).take ((6+(N:Int)+4).toNat-(6+(N:Int)).toNat)=((b.drop (N+6)).take 4).map yA:=by
  rw[yDh,yDg,show(6+(N:Int)+4).toNat-(6+(N:Int)).toNat=4 by omega,show(6+(N:Int)).toNat=N+6 by omega]
 have e3:((b.map yA).drop (6:Int).toNat).take ((6+(N:Int)).toNat-(6:Int).toNat)=((b.drop 6).take N).map yA:=by
  rw[yDh,yDg,show(6+(N:Int)).toNat-(6:Int).toNat=N by omega];rfl
 have hpl:(((b.drop 6).take N).map yA).length=N:=by rw[yAe,yAw,yA7];omega
 have hph:∀y,(((b.drop 6).take N).map yA)[0]? =some y->y.cells.length=1:=yC _ _ (λ_=>rfl);generalize (b.drop 2).take (N+4)=B1 at *;generalize (b.drop (N+6)).take 4=B2 at *;generalize (b.drop 6).take N=B3 at *;clear bd;obtain⟨y2,z2⟩:=AO b hb 2 zB;obtain⟨y3,z3⟩:=AO b hb 3 zB;generalize b.getD 2 0=x2 at *;generalize b.getD 3 0=x3 at *;generalize gN B1=u1 at *;generalize XS B2=u2 at *;by_cases h8:u1=u2
 case neg=>
  rw[yAd h8];refine eM call102 λF hF=>?_
  (repeat' (first|refine uP ?_|apply xM|apply xZ|intro hc|(refine zE ?_;first|refine SM ?_)|fail))
  rw[hor];refine yQ (gG kz kc kn) ?_;exact zJ
 rw[yAc (λh=>h h8)];by_cases h9:x2=1
 case neg=>
  rw[yAd h9];refine eM call102 λF hF=>?_
  (repeat' (first|refine uP ?_|apply xM|apply xZ|intro hc|(refine zE ?_;first|refine SM ?_)|fail))
  rw[hor];refine yQ (gG kz kc kn) ?_;refine zH [] Z Z (yBa (λz=>AV.tup [.agg [iA 3,iA 0,.sl false []],iA z,bA true]) ?_) Z;omega
 rw[yAc (λh=>h h9)];by_cases h10:x3<1∨22<x3
 ·rw[yAd h10]
  rcases h10 with h10|h10
  all_goals
   refine eM call102 λF hF=>?_
   (repeat' (first|refine uP ?_|apply xM|apply xZ|intro hc|(refine zE ?_;first|refine SM ?_)|fail))
   rw[hor];refine yQ (gG kz kc kn) ?_;refine zH [] Z Z (yBa (λz=>AV.tup [.agg [iA 5,iA 0,.sl false []],iA z,bA true]) ?_) Z;omega
 ·rw[yAc h10];have h11:1<=x3:=by omega
  have h12:x3<=22:=by omega
  refine eM call102 λF hF=>?_
  (repeat' (first|refine uP ?_|apply xM|apply xZ|intro hc|(refine zE ?_;first|refine SM ?_)|fail))
  rw[hor]
  (have zc1:=kz;have zc2:=kc;have zc3:=kn;(repeat' (first|refine uP ?_|apply xM|apply xZ|intro hc|(refine zE ?_;first|refine SM ?_|(refine uT (MB tok Z Z Z Z Z Z Z hph Z zB) Z Z Z ?_))|fail))<;>clear zc1 zc2 zc3)
  have hsz:6+(N:Int)+4=((N+10:Nat):Int):=by omega
  refine zH [] Z Z ?_ Z
  show AV.tup [.agg [iA 0,iA x3,.sl false (List.take N (List.drop 0 (List.take 0 (List.replicate N (yA 0))++B3.map yA++List.drop (0+(B3.map yA).length) (List.replicate N (yA 0)))))],iA (6+(N:Int)+4),bA true]=_
  rw[hsz,hpl,yBf,yDl,yCc,yEv zS,yA8,yAo zB];rfl
end
end Av
end Go.Proofs.YteajjdidebfcjaaGreat
