/- Part 20. -/
import Derived.Test.YtmamjhmoegjapaaGreatP19
namespace Go.Proofs.YtmamjhmoegjapaaGreat
namespace Av
open Tryz
set_option linter.all false
set_option maxRecDepth 4000
set_option maxHeartbeats 4000000
theorem zR3 {l:List Tk} (h:ML l=true):GJ l/\l.length=8:=by
 rw[zG4]at h;have T:=(zSz l).1 h;refine⟨⟨by have:=T.n;omega,λt ht=>?_⟩,T.n⟩;obtain⟨i,hi,rfl⟩:=yAz ht;have hi8:i<8:=by have:=T.n;omega
 have e:l.getD i default=l[i]:=by simp[List.getD,hi]
 cases hu:(l.getD i default).used with
 |false=>
  have:=T.f i hi8 hu;unfold FM at this;rw[zYx]at this;rw[<-e];omega
 |true=>
  have:=(T.s i hi8 hu).1;unfold soF zGx at this;simp only[zY6,zYx]at this;rw[<-e];omega
theorem zR4 {l:List Tk} (hb:GJ l) (k:Nat) (e:Int) (t:Tk) (ht:t.sec.length<=1000000):GJ (GL l k e t):=by
 unfold GL;split
 ·refine⟨by rw[yAk];exact hb.n,λx hx=>?_⟩
  rcases yBy hx with h|rfl
  ·exact hb.s x h
  ·exact ht
 ·exact YJ
structure GvB (r:Rg):Prop where
 num:0<=r.num/\r.num<4
 b:FT r
 tv:ML r.tk=true
 n8:r.tk.length=8
 lim:(r.ag.lim.length:Int)=4
 cls:0<=r.ag.cls/\r.ag.cls<=3
 vl:r.vh.length<=8
theorem zF4 {r:Rg} (h:gvF r=true):GvB r:=by
 unfold gvF at h;simp only[zY6,zYx]at h;obtain⟨h1,h2,h3,h4,h5,h6⟩:=h;obtain⟨t1,t2⟩:=zR3 h3;have hv:=(zQz.1 h4).1;unfold avF at h2;simp only[zY6,zYx]at h2;obtain⟨⟨a1,a2⟩,a3,a4,a5,a6⟩:=h2;unfold jW at a5;rw[zYx]at a5;exact⟨h1,⟨t1,zB,zB,zB⟩,h3,t2,a2,a5,hv⟩
def rg0:Rg:=⟨0,⟨[],0,0,[],0,0,0,0⟩,[],[],⟨0,0,0⟩⟩
def RX:Ms:=⟨0,[],[],[]⟩
def doR (e:Int):AV:= .tup [qG rg0,yB RX,bA false,iA e]
theorem zV3:FT rg0:=⟨YJ,zY4 _,zY4 _,zY4 _⟩
theorem cF (e:Int):doR e= .tup [.agg [iA 0,.sl false [],iA 0,iA 0,.sl false [],iA 0,iA 0,iA 0,iA 0,.sl false [],.sl false [],iA 0,iA 0,iA 0],.agg [iA 0,.sl false [],.sl false [],.sl false []],bA false,iA e]:=rfl
theorem XH (r:Rg) (m:Ms) (s now:Int) (sec:List Int) (gv b us:Bool) (c1:zO 258 [qG r] [] (bA gv) []) (c2:zO 119 [yB m] [] (bA b) []) (c3:zO 259 [zD xE r.tk,iA s] [] (bA us) []) (h:gv=false∨b=false∨us=false∨(¬(sec.length:Int)=0/\¬(sec.length:Int)=8)) (hsl:sec.length<=1000):
  zO 236 [qG r,yB m,iA s,iA now,zD yA sec] [] (doR 1) []:=by
 rw[cF];have hls:=zA yA sec;cases gv
 ·(refine eM call236 λF hF=>?_)
  refine zW c1 ?_;exact zL
 cases b
 ·(refine eM call236 λF hF=>?_)
  refine xA (vD c1 c2) ?_;exact zL
 cases us
 ·(refine eM call236 λF hF=>?_)
  refine xA (gK c1 c2 c3) ?_;exact zL
 ·rcases h with h|h|h|⟨h1,h2⟩
  ·cases h
  ·cases h
  ·cases h
  ·(refine eM call236 λF hF=>?_)
   refine xA (gK c1 c2 c3) ?_;exact zL
theorem zF5 (r:Rg) (m:Ms) (s now:Int) (sec:List Int) (c1:yU [qG r] [] (bA false) []):
 yU [qG r,yB m,iA s,iA now,zD yA sec] [] (doR 1) []:=yG
theorem zF6 (r:Rg) (m:Ms) (s now:Int) (sec:List Int) (c1:yU [qG r] [] (bA true) []) (h2:¬m.kind=2) (h3:¬m.kind=3) (h4:¬m.kind=4) (h5:¬m.kind=5):
 yU [qG r,yB m,iA s,iA now,zD yA sec] [] (doR 1) []:=yG
theorem PB (r:Rg) (m:Ms) (s now:Int) (sec:List Int) (n8:r.tk.length=8) (b:Bool) (c1:yU [qG r] [] (bA true) []) (c2:zO 84 [yB m] [] (bA b) []) (hk:m.kind=2∨m.kind=3∨m.kind=4∨m.kind=5)
 (h:b=false∨fP r.tk s=false∨(¬(sec.length:Int)=0/\¬(sec.length:Int)=8)) (hsl:sec.length<=1000):yU [qG r,yB m,iA s,iA now,zD yA sec] [] (doR 1) []:=yG
theorem AB (k a:Int):yU [iA k,iA a] [] (yB ⟨14,[],[k,a],[]⟩) []:=yG
def rgV (r:Rg) (l:List Vh):Rg:=⟨r.num,r.ag,r.tk,l,r.bk⟩
def DoP (r:Rg) (m:Ms) (sec:List Int) (r':Rg) (p:Ms) (u:Bool) (e:Int):Prop:=
 (e≠0->u=false/\0<=e/\e<=100)/\(e=0->(∃o,o.length=8/\T0K r.tk o/\r'=rgT r o/\((u=false/\p=⟨14,[],[3,m.args.getD 0 0],[]⟩/\m.kind=3)∨(u=true/\sec.length=8/\m.kind=2/\∃k:Nat,k<8/\p=⟨16,[],[(k:Int)],r.num::(k:Int)::sec⟩)))∨
  (∃o,o.length<=8/\r'=rgV r o/\u=false/\(m.kind=4∨m.kind=5)/\p=⟨14,[],[m.kind,m.args.getD 0 0],[]⟩))
def XI (r:Rg) (m:Ms) (s now:Int) (sec:List Int):Prop:=∃(r':Rg) (p:Ms) (u:Bool) (e:Int),FT r'/\MsB p/\DoP r m sec r' p u e/\
 zO 236 [qG r,yB m,iA s,iA now,zD yA sec] [] (.tup [qG r',yB p,bA u,iA e]) []/\
 yU [qG r,yB m,iA s,iA now,zD yA sec] [] (.tup [qG r',yB p,bA u,iA e]) []
theorem zV4:MsB RX:=⟨zY4 _,zY4 _,zY4 _⟩
theorem XI.bad {r:Rg} {m:Ms} {s now:Int} {sec:List Int} (e:Int) (he:e≠0) (h1:zO 236 [qG r,yB m,iA s,iA now,zD yA sec] [] (doR e) []) (h2:yU [qG r,yB m,iA s,iA now,zD yA sec] [] (doR e) []) (hb:0<=e/\e<=100:=by omega):XI r m s now sec:=
 ⟨rg0,RX,false,e,zV3,zV4,⟨λ_=>⟨rfl,hb⟩,λh=>absurd h he⟩,h1,h2⟩
theorem do3 (r:Rg) (hgv:gvF r=true) (tkn:List Int) (a s now:Int) (sec:List Int) (hu:fP r.tk s=true) (hs:(sec.length:Int)=0∨(sec.length:Int)=8)
  (m1:zO 119 [yB ⟨3,tkn,[a],[]⟩] [] (bA true) []) (m2:zO 84 [yB ⟨3,tkn,[a],[]⟩] [] (bA true) []):XI r ⟨3,tkn,[a],[]⟩ s now sec:=by
 have H:=zF4 hgv;have c1:=ZG r XA;have k1:=bB r XA;rw[hgv]at c1 k1;have c3:=VE r.tk s;rw[hu]at c3;have c4:=dB r H.b;have k4:=QB r H.b;have c6:=zRf ⟨3,tkn,[a],[]⟩ a rfl;have k6:=AB 3 a;rw[show yB ⟨14,[],[(⟨3,tkn,[a],[]⟩:Ms).kind,a],[]⟩= .agg [iA 14,.sl false [],.sl false [iA 3,iA a],.sl false []]from rfl]at c6;rw[show yB ⟨14,[],[3,a],[]⟩= .agg [iA 14,.sl false [],.sl false [iA 3,iA a],.sl false []]from rfl]at k6;obtain⟨o,e,_,ho,ho8,c5,k5⟩:=DO r.tk H.b.tk a;have hls:=zA yA sec;have hlt:=zA xE r.tk;have hl1:([a].map iA).length=1:=rfl
 have hU:(r.tk.getD s.toNat default).used=true/\0<=s/\s<8:=by
  unfold fP at hu;rw[zY6,zYx]at hu;exact⟨hu.2,hu.1.1,by have:=H.n8;omega⟩
 have hn8:=H.n8;have hy:=yP xE r.tk s hU.2.1 zB;have hbR:FT (rgT r o):=⟨ho,H.b.s,H.b.l,H.b.v⟩;obtain⟨hU,hs0,hs8⟩:=hU;clear hu H hgv;generalize r.tk.getD s.toNat default=x at *;obtain⟨xu,x1,x2,x3,x4,x5⟩:=x;dsimp only at hU;subst hU;rw[show xE ⟨true,x1,x2,x3,x4,x5⟩= .agg [bA true,zD yA x1,iA x2,iA x3,iA x4,iA x5]from rfl]at hy;by_cases he:e=0
 ·subst he;refine⟨rgT r o,⟨14,[],[3,a],[]⟩,false,0,hbR,⟨zY4 _,by simp,zY4 _⟩,⟨λh=>absurd rfl h,λ_=> .inl ⟨o,by rw[(ho8 rfl).1,hn8],(ho8 rfl).2,rfl,.inl ⟨rfl,rfl,rfl⟩⟩⟩,?_,?_⟩
  ·rw[show yB ⟨14,[],[3,a],[]⟩= .agg [iA 14,.sl false [],.sl false [iA 3,iA a],.sl false []]from rfl]
   rcases hs with hs|hs
   all_goals
    refine eM call236 λF hF=>?_
    refine xA (zt6 c1 m1 c3 c4 c5 c6) ?_;exact zL
  ·rw[show yB ⟨14,[],[3,a],[]⟩= .agg [iA 14,.sl false [],.sl false [iA 3,iA a],.sl false []]from rfl]
   rcases hs with hs|hs
   all_goals
    exact yG
 ·refine .bad e he ?_ ?_
  ·rw[cF]
   rcases hs with hs|hs
   all_goals
    refine eM call236 λF hF=>?_
    refine xA (zt6 c1 m1 c3 c4 c5 c6) ?_;exact zL
  ·rw[cF]
   rcases hs with hs|hs
   all_goals
    exact yG
theorem do5 (r:Rg) (hgv:gvF r=true) (tkn:List Int) (a s now:Int) (sec:List Int) (hu:fP r.tk s=true) (hs:(sec.length:Int)=0∨(sec.length:Int)=8)
  (m1:zO 119 [yB ⟨5,tkn,[a],[]⟩] [] (bA true) []) (m2:zO 84 [yB ⟨5,tkn,[a],[]⟩] [] (bA true) []):XI r ⟨5,tkn,[a],[]⟩ s now sec:=by
 have H:=zF4 hgv;have c1:=ZG r XA;have k1:=bB r XA;rw[hgv]at c1 k1;have c3:=VE r.tk s;rw[hu]at c3;have c4:=dB r H.b;have k4:=QB r H.b;have c6:=zRf ⟨5,tkn,[a],[]⟩ a rfl;have k6:=AB 5 a;rw[show yB ⟨14,[],[(⟨5,tkn,[a],[]⟩:Ms).kind,a],[]⟩= .agg [iA 14,.sl false [],.sl false [iA 5,iA a],.sl false []]from rfl]at c6;rw[show yB ⟨14,[],[5,a],[]⟩= .agg [iA 14,.sl false [],.sl false [iA 5,iA a],.sl false []]from rfl]at k6;obtain⟨o,e,⟨heb,_⟩,ho,c5,k5⟩:=DM r.vh XA a;have hls:=zA yA sec;have hlt:=zA xE r.tk;have hl1:([a].map iA).length=1:=rfl
 have hU:(r.tk.getD s.toNat default).used=true/\0<=s/\s<8:=by
  unfold fP at hu;rw[zY6,zYx]at hu;exact⟨hu.2,hu.1.1,by have:=H.n8;omega⟩
 have hn8:=H.n8;have hy:=yP xE r.tk s hU.2.1 zB;have ho9:o.length<=8:=by have:=H.vl;omega
 have hbR:FT (rgV r o):=⟨H.b.tk,H.b.s,H.b.l,by have:=H.vl;show o.length<=_;omega⟩;obtain⟨hU,hs0,hs8⟩:=hU;clear hu H hgv;generalize r.tk.getD s.toNat default=x at *;obtain⟨xu,x1,x2,x3,x4,x5⟩:=x;dsimp only at hU;subst hU;rw[show xE ⟨true,x1,x2,x3,x4,x5⟩= .agg [bA true,zD yA x1,iA x2,iA x3,iA x4,iA x5]from rfl]at hy;by_cases he:e=0
 ·subst he;refine⟨rgV r o,⟨14,[],[5,a],[]⟩,false,0,hbR,⟨zY4 _,by simp,zY4 _⟩,⟨λh=>absurd rfl h,λ_=> .inr ⟨o,ho9,rfl,rfl,.inr rfl,rfl⟩⟩,?_,?_⟩
  ·rw[show yB ⟨14,[],[5,a],[]⟩= .agg [iA 14,.sl false [],.sl false [iA 5,iA a],.sl false []]from rfl]
   rcases hs with hs|hs
   all_goals
    refine eM call236 λF hF=>?_
    refine xA (zt6 c1 m1 c3 c4 c5 c6) ?_;exact zL
  ·rw[show yB ⟨14,[],[5,a],[]⟩= .agg [iA 14,.sl false [],.sl false [iA 5,iA a],.sl false []]from rfl]
   rcases hs with hs|hs
   all_goals
    exact yG
 ·refine .bad e he ?_ ?_
  ·rw[cF]
   rcases hs with hs|hs
   all_goals
    refine eM call236 λF hF=>?_
    refine xA (zt6 c1 m1 c3 c4 c5 c6) ?_;exact zL
  ·rw[cF]
   rcases hs with hs|hs
   all_goals
    exact yG
theorem GZ (r:Rg) (a b s:Int) (n8:r.tk.length=8) (h0:0<=s) (h8:s<8) (o:List Vh) (e:Int) (c:zO 286 [zD vQ r.vh,wN (agC r.ag (min r.ag.cls (r.tk.getD s.toNat default).cls)),vQ ⟨a,b⟩] [] (.tup [zD vQ o,iA e]) []):
  zO 263 [qG r,zD iA [a,b],iA s] [] (.tup [zD vQ o,iA e]) []:=by
 have hlt:=zA xE r.tk;have hl1:([a,b].map iA).length=2:=rfl;have hy:=yP xE r.tk s h0 zB;generalize r.tk.getD s.toNat default=x at *;obtain⟨xu,x1,x2,x3,x4,x5⟩:=x;rw[show xE ⟨xu,x1,x2,x3,x4,x5⟩= .agg [bA xu,zD yA x1,iA x2,iA x3,iA x4,iA x5]from rfl]at hy;rw[show(⟨xu,x1,x2,x3,x4,x5⟩:Tk).cls=x4 from rfl]at c;have hAG:wN (agC r.ag (min r.ag.cls x4))= .agg [zD yA r.ag.sec,iA r.ag.rights,iA (min r.ag.cls x4),zD iA r.ag.lim,iA r.ag.req,iA r.ag.ses,iA r.ag.rate,iA r.ag.burst]:=rfl;rw[hAG]at c;rw[show vQ ⟨a,b⟩= .agg [iA a,iA b]from rfl]at c;refine eM call263 λF hF=>?_
 refine zW c ?_;exact zL
theorem do4 (r:Rg) (hgv:gvF r=true) (tkn:List Int) (a b s now:Int) (sec:List Int) (hu:fP r.tk s=true) (hs:(sec.length:Int)=0∨(sec.length:Int)=8)
  (m1:zO 119 [yB ⟨4,tkn,[a,b],[]⟩] [] (bA true) []) (m2:zO 84 [yB ⟨4,tkn,[a,b],[]⟩] [] (bA true) []):XI r ⟨4,tkn,[a,b],[]⟩ s now sec:=by
 have H:=zF4 hgv;have c1:=ZG r XA;have k1:=bB r XA;rw[hgv]at c1 k1;have c3:=VE r.tk s;rw[hu]at c3;have c4:=dB r H.b;have k4:=QB r H.b
 have c6:zO 262 [yB ⟨4,tkn,[a,b],[]⟩] [] (yB ⟨14,[],[4,a],[]⟩) []:=by
  have hl1:([a,b].map iA).length=2:=rfl;refine eM call262 λF hF=>?_
  refine WL ?_;exact zL
 have k6:=AB 4 a;rw[show yB ⟨14,[],[4,a],[]⟩= .agg [iA 14,.sl false [],.sl false [iA 4,iA a],.sl false []]from rfl]at c6 k6;obtain⟨o,e,⟨heb,_⟩,⟨ho,ho8⟩,cv,k5⟩:=MW r.vh XA r.ag (r.tk.getD s.toNat default).cls H.lim H.cls.2 ⟨a,b⟩;have hls:=zA yA sec;have hlt:=zA xE r.tk;have hl1:([a,b].map iA).length=2:=rfl
 have hU:(r.tk.getD s.toNat default).used=true/\0<=s/\s<8:=by
  unfold fP at hu;rw[zY6,zYx]at hu;exact⟨hu.2,hu.1.1,by have:=H.n8;omega⟩
 have hn8:=H.n8;have hy:=yP xE r.tk s hU.2.1 zB;have ho9:o.length<=8:=by have:=H.vl;omega
 have hbR:FT (rgV r o):=⟨H.b.tk,H.b.s,H.b.l,by have:=H.vl;show o.length<=_;omega⟩;obtain⟨hU,hs0,hs8⟩:=hU;have c5:=GZ r a b s hn8 hs0 hs8 o e cv;clear hu H hgv cv;generalize r.tk.getD s.toNat default=x at *;obtain⟨xu,x1,x2,x3,x4,x5⟩:=x;dsimp only at hU;subst hU;rw[show xE ⟨true,x1,x2,x3,x4,x5⟩= .agg [bA true,zD yA x1,iA x2,iA x3,iA x4,iA x5]from rfl]at hy;rw[show(⟨true,x1,x2,x3,x4,x5⟩:Tk).cls=x4 from rfl,show vQ ⟨a,b⟩= .agg [iA a,iA b]from rfl,show wN r.ag= .agg [zD yA r.ag.sec,iA r.ag.rights,iA r.ag.cls,zD iA r.ag.lim,iA r.ag.req,iA r.ag.ses,iA r.ag.rate,iA r.ag.burst]from rfl]at k5;by_cases he:e=0
 ·subst he;refine⟨rgV r o,⟨14,[],[4,a],[]⟩,false,0,hbR,⟨zY4 _,by simp,zY4 _⟩,⟨λh=>absurd rfl h,λ_=> .inr ⟨o,ho9,rfl,rfl,.inl rfl,rfl⟩⟩,?_,?_⟩
  ·rw[show yB ⟨14,[],[4,a],[]⟩= .agg [iA 14,.sl false [],.sl false [iA 4,iA a],.sl false []]from rfl]
   rcases hs with hs|hs
   all_goals
    refine eM call236 λF hF=>?_
    refine xA (zt6 c1 m1 c3 c4 c5 c6) ?_;exact zL
  ·rw[show yB ⟨14,[],[4,a],[]⟩= .agg [iA 14,.sl false [],.sl false [iA 4,iA a],.sl false []]from rfl]
   rcases hs with hs|hs
   all_goals
    exact yG
 ·refine .bad e he ?_ ?_
  ·rw[cF]
   rcases hs with hs|hs
   all_goals
    refine eM call236 λF hF=>?_
    refine xA (zt6 c1 m1 c3 c4 c5 c6) ?_;exact zL
  ·rw[cF]
   rcases hs with hs|hs
   all_goals
    exact yG
def zDx:AV:= .agg [iA 0,.s (.slice none 0 0),.s (.slice none 0 0),.s (.slice none 0 0)]
theorem AC (r:Rg) (s R c life now e:Int) (he:¬e=0) (k:Nat) (sec:List Int)
  (c1:zO 283 [zD xE r.tk,iA s,iA R,iA c,iA life,zD yA (List.replicate 8 0),iA now] [] (.tup [.sl false [],iA k,iA e]) []):
  zO 260 [.ptr 14 0 0,zD iA [R,c,life],iA s,iA now,zD yA sec] [(14,RQ r)] (.tup [zDx,iA e]) [(14,RQ r)]:=by
 have hls:=zA yA sec;have hl3:([R,c,life].map iA).length=3:=rfl;unfold RQ zDx;rw[show zD yA (List.replicate 8 0)= .sl false (List.replicate 8 (AV.s (.int .u8 0)))from rfl]at c1;refine eM call260 λF hF=>?_
 (repeat' (first|refine WZX ?_|refine xR (λhc=>?_) (λhc=>?_)|refine wE (λhc=>?_)|(refine zE ?_;first|refine SM ?_)|fail))
 refine jS (st':=⟨[(0,.ptr 14 0 0),(1,zD iA [R,c,life]),(2,iA s),(3,iA now),(4,zD yA sec),(10,.ptr 10 0 0),(11,iA 0),(12,.sl false (List.replicate 8 (AV.s (.int .u8 0))))],[(14,.box [iA r.num,zD yA r.ag.sec,iA r.ag.rights,iA r.ag.cls,zD iA r.ag.lim,iA r.ag.req,iA r.ag.ses,iA r.ag.rate,iA r.ag.burst,zD xE r.tk,zD vQ r.vh,iA r.bk.level,iA r.bk.rate,iA r.bk.burst]),(10,.box [iA 0,.s (.slice none 0 0),.s (.slice none 0 0),.s (.slice none 0 0)])]⟩) [14,10] [0,1,2,3,4,10,11,12] rfl rfl ?_;refine zW c1 ?_;exact zJ [14] rfl rfl rfl rfl
theorem AD (r:Rg) (s R c life now:Int) (k:Nat) (l1:List Tk)
  (c1:zO 283 [zD xE r.tk,iA s,iA R,iA c,iA life,zD yA (List.replicate 8 0),iA now] [] (.tup [zD xE l1,iA k,iA 0]) []):
  zO 260 [.ptr 14 0 0,zD iA [R,c,life],iA s,iA now,zD yA []] [(14,RQ r)] (.tup [zDx,iA 18]) [(14,RQ r)]:=by
 have hls:(([]:List Int).map yA).length=0:=rfl;have hl3:([R,c,life].map iA).length=3:=rfl;unfold RQ zDx;rw[show zD yA (List.replicate 8 0)= .sl false (List.replicate 8 (AV.s (.int .u8 0)))from rfl]at c1;refine eM call260 λF hF=>?_
 (repeat' (first|refine WZX ?_|refine xR (λhc=>?_) (λhc=>?_)|refine wE (λhc=>?_)|(refine zE ?_;first|refine SM ?_)|fail))
 refine jS (st':=⟨[(0,.ptr 14 0 0),(1,zD iA [R,c,life]),(2,iA s),(3,iA now),(4,zD yA []),(10,.ptr 10 0 0),(11,iA 0),(12,.sl false (List.replicate 8 (AV.s (.int .u8 0))))],[(14,.box [iA r.num,zD yA r.ag.sec,iA r.ag.rights,iA r.ag.cls,zD iA r.ag.lim,iA r.ag.req,iA r.ag.ses,iA r.ag.rate,iA r.ag.burst,zD xE r.tk,zD vQ r.vh,iA r.bk.level,iA r.bk.rate,iA r.bk.burst]),(10,.box [iA 0,.s (.slice none 0 0),.s (.slice none 0 0),.s (.slice none 0 0)])]⟩) [14,10] [0,1,2,3,4,10,11,12] rfl rfl ?_;refine zW c1 ?_;exact zJ [14] rfl rfl rfl rfl
theorem AE (r:Rg) (hg:0<=r.num/\r.num<4) (s R c life now:Int) (sec:List Int) (hs:(sec.length:Int)=8) (k:Nat) (hk8:k<8) (l1 l2:List Tk)
  (c1:zO 283 [zD xE r.tk,iA s,iA R,iA c,iA life,zD yA (List.replicate 8 0),iA now] [] (.tup [zD xE l1,iA k,iA 0]) [])
  (c2:zO 283 [zD xE r.tk,iA s,iA R,iA c,iA life,zD yA sec,iA now] [] (.tup [zD xE l2,iA k,iA 0]) []):
  zO 260 [.ptr 14 0 0,zD iA [R,c,life],iA s,iA now,zD yA sec] [(14,RQ r)] (.tup [.agg [iA 16,.s (.slice none 0 0),.sl false [iA k],zD yA (r.num::(k:Int)::sec)],iA 0]) [(14,RQ (rgT r l2))]:=by
 have c3:=zGc r.num k sec zB zB zB zB zB;have hls:=zA yA sec;have hl3:([R,c,life].map iA).length=3:=rfl;unfold RQ rgT;dsimp only;generalize r.num::(k:Int)::sec=by1 at *;rw[show zD yA (List.replicate 8 0)= .sl false (List.replicate 8 (AV.s (.int .u8 0)))from rfl]at c1;refine eM call260 λF hF=>?_
 (repeat' (first|refine WZX ?_|refine xR (λhc=>?_) (λhc=>?_)|refine wE (λhc=>?_)|(refine zE ?_;first|refine SM ?_)|fail))
 refine jS (st':=⟨[(0,.ptr 14 0 0),(1,zD iA [R,c,life]),(2,iA s),(3,iA now),(4,zD yA sec),(10,.ptr 10 0 0),(11,iA 0),(12,.sl false (List.replicate 8 (AV.s (.int .u8 0))))],[(14,.box [iA r.num,zD yA r.ag.sec,iA r.ag.rights,iA r.ag.cls,zD iA r.ag.lim,iA r.ag.req,iA r.ag.ses,iA r.ag.rate,iA r.ag.burst,zD xE r.tk,zD vQ r.vh,iA r.bk.level,iA r.bk.rate,iA r.bk.burst]),(10,.box [iA 0,.s (.slice none 0 0),.s (.slice none 0 0),.s (.slice none 0 0)])]⟩) [14,10] [0,1,2,3,4,10,11,12] rfl rfl ?_;refine xA (gK c1 c2 c3) ?_;exact zJ [14] rfl rfl rfl rfl
theorem FA (r:Rg) (n8:r.tk.length=8) (tkn:List Int) (R c life s now:Int) (hs0:0<=s) (hs8:s<8) (x1:List Int) (x2 x3 x4 x5:Int) (hy:(r.tk.map xE)[s.toNat]? =some (.agg [bA true,zD yA x1,iA x2,iA x3,iA x4,iA x5])) (k:Nat) (e f:Int) (hf:(e=0/\f=18)∨(¬e=0/\f=e)) (l1:List Tk)
 (k1:yU [qG r] [] (bA true) []) (m2:zO 84 [yB ⟨2,tkn,[R,c,life],[]⟩] [] (bA true) []) (k4:yU [qG r] [] (qG r) [])
 (e1:yU [zD xE r.tk,iA s,iA R,iA c,iA life,zD yA (List.replicate 8 0),iA now] [] (.tup [zD xE l1,iA k,iA e]) []) (kb:zO 46 [iA r.num,iA k,zD yA []] [] (zD yA (r.num::(k:Int)::[])) []):
 yU [qG r,yB ⟨2,tkn,[R,c,life],[]⟩,iA s,iA now,zD yA []] [] (doR f) []:=yG
theorem FB (r:Rg) (n8:r.tk.length=8) (tkn:List Int) (R c life s now:Int) (sec:List Int) (hsl:(sec.length:Int)=8) (hs0:0<=s) (hs8:s<8) (x1:List Int) (x2 x3 x4 x5:Int) (hy:(r.tk.map xE)[s.toNat]? =some (.agg [bA true,zD yA x1,iA x2,iA x3,iA x4,iA x5])) (k:Nat) (e:Int) (l1:List Tk)
 (k1:yU [qG r] [] (bA true) []) (m2:zO 84 [yB ⟨2,tkn,[R,c,life],[]⟩] [] (bA true) []) (k4:yU [qG r] [] (qG r) [])
 (e1:yU [zD xE r.tk,iA s,iA R,iA c,iA life,zD yA sec,iA now] [] (.tup [zD xE l1,iA k,iA e]) []) (kb:zO 46 [iA r.num,iA k,zD yA sec] [] (zD yA (r.num::(k:Int)::sec)) []):
 yU [qG r,yB ⟨2,tkn,[R,c,life],[]⟩,iA s,iA now,zD yA sec] [] (if e=0 then .tup [qG (rgT r l1),yB ⟨16,[],[(k:Int)],r.num::(k:Int)::sec⟩,bA true,iA 0]else doR e) []:=yG
theorem do2 (r:Rg) (hgv:gvF r=true) (tkn:List Int) (R c life s now:Int) (sec:List Int) (hu:fP r.tk s=true) (hs:(sec.length:Int)=0∨(sec.length:Int)=8)
  (m1:zO 119 [yB ⟨2,tkn,[R,c,life],[]⟩] [] (bA true) []) (m2:zO 84 [yB ⟨2,tkn,[R,c,life],[]⟩] [] (bA true) []):XI r ⟨2,tkn,[R,c,life],[]⟩ s now sec:=by
 have H:=zF4 hgv;have c1:=ZG r XA;have k1:=bB r XA;rw[hgv]at c1 k1;have c3:=VE r.tk s;rw[hu]at c3;have c4:=dB r H.b;have k4:=QB r H.b;obtain⟨k,e,_,hk,hkf,hD⟩:=DN r.tk H.b.tk s R c life now;have hn8:=H.n8
 have hk8:k<8:=by rcases hk with h|h<;>omega
 have hT0:e=0->∀t,T0K r.tk (GL r.tk k e t):=λhe t h1 _=>by
  have h2:=(hkf he).2.2.2;unfold GL;rw[zYp he];have hk0:k≠0:=λh=>by rw[h,h1]at h2;cases h2
  simp[List.getD,yAx,hk0]
 clear hkf;have kb:=aP r.num k sec zB H.num.1 (by have:=H.num;omega) zB zB;have hnum:=H.num;have hls:=zA yA sec;have hlt:=zA xE r.tk;have hl1:([R,c,life].map iA).length=3:=rfl
 have hU:(r.tk.getD s.toNat default).used=true/\0<=s/\s<8:=by
  unfold fP at hu;rw[zY6,zYx]at hu;exact⟨hu.2,hu.1.1,zB⟩
 have hy:=yP xE r.tk s hU.2.1 zB;have hbR:∀t:Tk,t.sec.length<=1000000->FT (rgT r (GL r.tk k e t)):=λt ht=>⟨zR4 H.b.tk k e t ht,H.b.s,H.b.l,H.b.v⟩
 obtain⟨hU,hs0,hs8⟩:=hU;clear hu H hgv hk;generalize r.tk.getD s.toNat default=x at *;obtain⟨xu,x1,x2,x3,x4,x5⟩:=x;dsimp only at hU;subst hU;rw[show xE ⟨true,x1,x2,x3,x4,x5⟩= .agg [bA true,zD yA x1,iA x2,iA x3,iA x4,iA x5]from rfl]at hy;obtain⟨d1,e1⟩:=hD (List.replicate 8 0) rfl;by_cases he:e=0
 ·subst he
  rcases hs with hs|hs
  ·
   have hs:=zZp (show sec.length=0 by omega);subst hs;have R1:=FA r hn8 tkn R c life s now hs0 hs8 x1 x2 x3 x4 x5 hy k 0 18 (.inl ⟨rfl,rfl⟩) _ k1 m2 k4 e1 kb;refine .bad 18 xN ?_ R1;clear R1;generalize GL r.tk k 0 ⟨true,List.replicate 8 0,s,R,c,BO life now⟩=l1 at *;have c5:=AD r s R c life now k l1 d1;unfold RQ zDx at c5;clear hD hbR;rw[cF];refine eM call236 λF hF=>?_
   refine xA (zt5 c1 m1 c3 c4 c5) ?_;exact zL
  ·obtain⟨d2,e2⟩:=hD sec hs;have R1:=FB r hn8 tkn R c life s now sec hs hs0 hs8 x1 x2 x3 x4 x5 hy k 0 _ k1 m2 k4 e2 kb;rw[zYp rfl]at R1;refine⟨rgT r (GL r.tk k 0 ⟨true,sec,s,R,c,BO life now⟩),⟨16,[],[(k:Int)],r.num::(k:Int)::sec⟩,true,0,hbR _ (by show sec.length<=_;omega),⟨zY4 _,by simp,by simp;omega⟩,⟨λh=>absurd rfl h,λ_=> .inl ⟨_,by rw[GL,zYp rfl,yAk];exact hn8,hT0 rfl _,rfl,.inr ⟨rfl,zB,rfl,k,hk8,rfl⟩⟩⟩,?_,R1⟩;clear R1;generalize GL r.tk k 0 ⟨true,List.replicate 8 0,s,R,c,BO life now⟩=l1 at *;generalize GL r.tk k 0 ⟨true,sec,s,R,c,BO life now⟩=l2 at *;have c5:=AE r hnum s R c life now sec hs k hk8 l1 l2 d1 d2;unfold RQ at c5;clear hD hbR;rw[show yB ⟨16,[],[(k:Int)],r.num::(k:Int)::sec⟩= .agg [iA 16,.sl false [],.sl false [iA (k:Int)],zD yA (r.num::(k:Int)::sec)]from rfl];generalize r.num::(k:Int)::sec=by1 at *;refine eM call236 λF hF=>?_
   refine xA (zt5 c1 m1 c3 c4 c5) ?_;exact zL
 ·have hno:∀t,GL r.tk k e t=[]:=λt=>by unfold GL;rw[zYo he]
  have d1':=d1;rw[hno]at d1';have c5:=AC r s R c life now e he k sec d1';unfold RQ zDx at c5
  have R1:yU [qG r,yB ⟨2,tkn,[R,c,life],[]⟩,iA s,iA now,zD yA sec] [] (doR e) []:=by
   rcases hs with hs|hs
   ·have hs:=zZp (show sec.length=0 by omega);subst hs;exact FA r hn8 tkn R c life s now hs0 hs8 x1 x2 x3 x4 x5 hy k e e (.inr ⟨he,rfl⟩) _ k1 m2 k4 e1 kb
   ·obtain⟨d2,e2⟩:=hD sec hs;have R1:=FB r hn8 tkn R c life s now sec hs hs0 hs8 x1 x2 x3 x4 x5 hy k e _ k1 m2 k4 e2 kb;rw[zYo he]at R1;exact R1
  refine .bad e he ?_ R1;clear R1 hD hbR hno e1 d1 d1';rw[cF]
  rcases hs with hs|hs
  all_goals
   refine eM call236 λF hF=>?_
   refine xA (zt5 c1 m1 c3 c4 c5) ?_;exact zL
theorem zF7 (r:Rg) (m:Ms) (s now:Int) (sec:List Int) (c1:zO 258 [qG r] [] (bA true) []) (c2:zO 119 [yB m] [] (bA true) []) (c3:zO 259 [zD xE r.tk,iA s] [] (bA true) []) (c4:zO 187 [qG r] [] (qG r) []) (hs:(sec.length:Int)=0∨(sec.length:Int)=8)
  (h2:¬m.kind=2) (h3:¬m.kind=3) (h4:¬m.kind=4) (h5:¬m.kind=5):zO 236 [qG r,yB m,iA s,iA now,zD yA sec] [] (doR 1) []:=by
 rw[cF];have hls:=zA yA sec
 rcases hs with hs|hs
 all_goals
  refine eM call236 λF hF=>?_
  refine xA (aG c1 c2 c3 c4) ?_;exact zL
theorem zDy {l:List Int} (h:l.length=1):∃a,l=[a]:=by
 match l,h with
 | [a],_=>exact⟨a,rfl⟩
theorem zXy {l:List Int} (h:l.length=2):∃a b,l=[a,b]:=by
 match l,h with
 | [a,b],_=>exact⟨a,b,rfl⟩
theorem zXz {l:List Int} (h:l.length=3):∃a b c,l=[a,b,c]:=by
 match l,h with
 | [a,b,c],_=>exact⟨a,b,c,rfl⟩
theorem zMn (r:Rg) (hv:r.vh.length<=1000) (m:Ms) (hm:MsB m) (s now:Int) (sec:List Int) (hs:sec.length<=1000):XI r m s now sec:=by
 have c1:=ZG r zB;have k1:=bB r zB;obtain⟨b,c2,hb⟩:=zGg m hm;have c3:=VE r.tk s
 cases hg:gvF r with
 |false=>
  rw[hg]at c1 k1;exact .bad 1 xN (XH r m s now sec false b _ c1 c2 c3 (.inl rfl) hs) (zF5 r m s now sec k1)
 |true=>
 have H:=zF4 hg;rw[hg]at c1 k1;by_cases hk:m.kind=2∨m.kind=3∨m.kind=4∨m.kind=5
 case neg=>
  have h2:¬m.kind=2:=λh=>hk (.inl h)
  have h3:¬m.kind=3:=λh=>hk (.inr (.inl h))
  have h4:¬m.kind=4:=λh=>hk (.inr (.inr (.inl h)))
  have h5:¬m.kind=5:=λh=>hk (.inr (.inr (.inr h)))
  refine .bad 1 xN ?_ (zF6 r m s now sec k1 h2 h3 h4 h5)
  cases b with
  |false=>exact XH r m s now sec true false _ c1 c2 c3 (.inr (.inl rfl)) hs
  |true=>
  cases hu:fP r.tk s with
  |false=>exact XH r m s now sec true true _ c1 c2 c3 (.inr (.inr (.inl hu))) hs
  |true=>
  rw[hu]at c3;by_cases hsl:(sec.length:Int)=0∨(sec.length:Int)=8
  ·exact zF7 r m s now sec c1 c2 c3 (dB r H.b) hsl h2 h3 h4 h5
  ·exact XH r m s now sec true true true c1 c2 c3 (.inr (.inr (.inr ⟨λh=>hsl (.inl h),λh=>hsl (.inr h)⟩))) hs
 obtain⟨f,hf⟩:∃f,kdP m.kind f:=by
  unfold kdP
  rcases hk with h|h|h|h
  ·exact⟨3,.inl ⟨h,rfl⟩⟩
  ·exact⟨1,.inr (.inl ⟨h,rfl⟩)⟩
  ·exact⟨2,.inr (.inr (.inl ⟨h,rfl⟩))⟩
  ·exact⟨1,.inr (.inr (.inr ⟨h,rfl⟩))⟩
 obtain⟨b',k2,hb'⟩:=zDz m hm f hf
 have hbb:b'=b:=by
  have h1:=hb f hf
  cases b<;>cases b'<;>simp_all
 subst hbb;have h1:=hb f hf
 cases b' with
 |false=>exact .bad 1 xN (XH r m s now sec true false _ c1 c2 c3 (.inr (.inl rfl)) hs) (PB r m s now sec H.n8 false k1 k2 hk (.inl rfl) hs)
 |true=>
 cases hu:fP r.tk s with
 |false=>exact .bad 1 xN (XH r m s now sec true true _ c1 c2 c3 (.inr (.inr (.inl hu))) hs) (PB r m s now sec H.n8 true k1 k2 hk (.inr (.inl hu)) hs)
 |true=>
 by_cases hsl:(sec.length:Int)=0∨(sec.length:Int)=8
 case neg=>
  have hq:¬(sec.length:Int)=0/\¬(sec.length:Int)=8:=⟨λh=>hsl (.inl h),λh=>hsl (.inr h)⟩;exact .bad 1 xN (XH r m s now sec true true _ c1 c2 c3 (.inr (.inr (.inr hq))) hs) (PB r m s now sec H.n8 true k1 k2 hk (.inr (.inr hq)) hs)
 obtain⟨_,hd,hal,_⟩:=h1.1 rfl;obtain⟨mk,tkn,ar,da⟩:=m;dsimp only at hd hal hf;subst hd
 rcases hf with⟨rfl,rfl⟩|⟨rfl,rfl⟩|⟨rfl,rfl⟩|⟨rfl,rfl⟩
 ·obtain⟨x,y,z,rfl⟩:=zXz hal;exact do2 r hg tkn x y z s now sec hu hsl c2 k2
 ·obtain⟨x,rfl⟩:=zDy hal;exact do3 r hg tkn x s now sec hu hsl c2 k2
 ·obtain⟨x,y,rfl⟩:=zXy hal;exact do4 r hg tkn x y s now sec hu hsl c2 k2
 ·obtain⟨x,rfl⟩:=zDy hal;exact do5 r hg tkn x s now sec hu hsl c2 k2
def dgD (d:xQ) (m:Ms) (r':Rg) (u:Bool) (e:Int):xQ:=if e=0 then⟨r',(if m.kind=5 then DE d.rq (m.args.getD 0 0)else d.rq),(if u=true then d.dr.drop 1 else d.dr),d.au⟩else d
def MH (d:xQ):List Int:=d.dr.headD []
theorem zR5 (d:xQ) (m:Ms) (slot now:Int) (hv:aM d.rq) (hn:d.dr.length<=1000) (r':Rg) (p:Ms) (u:Bool) (e:Int)
  (f1:zO 236 [qG d.rg,yB m,iA slot,iA now,zD yA (MH d)] [] (.tup [qG r',yB p,bA u,iA e]) []) (h5:m.kind=5->∃a,m.args=[a]):
  zO 214 [zK d,yB m,iA slot,iA now] [] (.tup [zK (dgD d m r' u e),yB (if e=0 then p else RX),iA e]) []:=by
 unfold dgD;obtain⟨rg,rq,dr,au⟩:=d;obtain⟨k,tk0,ar,da⟩:=m;unfold MH at f1;dsimp only at *;have hlr:(dr.map qV).length=dr.length:=zA qV dr
 cases dr with
 | nil=>
  rw[List.headD_nil]at f1;by_cases he:e=0
  ·subst he;rw[zYp rfl,zYp rfl];by_cases hk:k=5
   ·subst hk;obtain⟨a,rfl⟩:=h5 rfl;have hw:=LY rq a hv;rw[zYp rfl,show([a]:List Int).getD 0 0=a from rfl];generalize DE rq a=ql at *;unfold qG yB at f1;unfold zK wH yB;cases u
    ·(refine eM call214 λF hF=>?_)
     refine xA (vD f1 hw) ?_;exact zL
    ·(refine eM call214 λF hF=>?_)
     refine xA (vD f1 hw) ?_;exact zL
   ·rw[zYo hk];clear h5;unfold qG yB at f1;unfold zK wH yB;cases u
    ·(refine eM call214 λF hF=>?_)
     refine zW f1 ?_;exact zL
    ·(refine eM call214 λF hF=>?_)
     refine zW f1 ?_;exact zL
  ·rw[zYo he,zYo he];clear h5;unfold qG yB at f1;unfold zK wH yB RX;refine eM call214 λF hF=>?_
   refine zW f1 ?_;exact zL
 | cons b bs=>
  rw[List.headD_cons]at f1;have hlr:(qV b::bs.map qV).length=bs.length+1:=by rw[zY2,zYq]
  rw[zY2]at hn;have hbb:zD qV (b::bs)= .sl false (qV b::bs.map qV):=rfl;by_cases he:e=0
  ·subst he;rw[zYp rfl,zYp rfl];by_cases hk:k=5
   ·subst hk;obtain⟨a,rfl⟩:=h5 rfl;have hw:=LY rq a hv;rw[zYp rfl,show([a]:List Int).getD 0 0=a from rfl];generalize DE rq a=ql at *;unfold qG yB at f1;unfold zK wH yB;rw[hbb];cases u
    ·(refine eM call214 λF hF=>?_)
     refine xA (vD f1 hw) ?_;exact zL
    ·(refine eM call214 λF hF=>?_)
     refine xA (vD f1 hw) ?_;exact zL
   ·rw[zYo hk];clear h5;unfold qG yB at f1;unfold zK wH yB;rw[hbb];cases u
    ·(refine eM call214 λF hF=>?_)
     refine zW f1 ?_;exact zL
    ·(refine eM call214 λF hF=>?_)
     refine zW f1 ?_;exact zL
  ·rw[zYo he,zYo he];clear h5;unfold qG yB at f1;unfold zK wH yB RX;rw[hbb];refine eM call214 λF hF=>?_
   refine zW f1 ?_;exact zL
theorem zMo (d:xQ) (m:Ms) (slot now:Int) (hv:aM d.rq) (hn:d.dr.length<=1000) (r':Rg) (p:Ms) (u:Bool) (e:Int)
 (f1:yU [qG d.rg,yB m,iA slot,iA now,zD yA (MH d)] [] (.tup [qG r',yB p,bA u,iA e]) []) (h5:m.kind=5->∃a,m.args=[a]) (hu:u=true->d.dr≠[]):
 yU [zK d,yB m,iA slot,iA now] [] (.tup [zK (dgD d m r' u e),yB p,iA e]) []:=yG
structure It where
 code:Int
 kind:Int
 pay:List Int
def vB (i:It):AV:= .agg [iA i.code,iA i.kind,zD yA i.pay]
def hT (d:xQ) (p:Ms) (k e:Int):AV:= .tup [zK d,yB p,iA k,iA e]
theorem zMp (c:Cf) (d:xQ) (s now:Int) (i:It) (hc:i.code≠0):zO 192 [wJ c,zK d,iA s,vB i,iA now] [] (hT d RX (-1) i.code) []:=by
 unfold wJ hT zK wH vB yB RX;refine eM call192 λF hF=>?_
 refine WW ?_;exact zL
theorem zMq (c:Cf) (d:xQ) (s now:Int) (i:It) (hc:i.code=0) (hk:¬(1<=i.kind/\i.kind<=12)):zO 192 [wJ c,zK d,iA s,vB i,iA now] [] (hT d RX (-1) 5) []:=by
 have k1:=fO i.kind;rw[zYw hk]at k1;obtain⟨co,ki,pa⟩:=i;dsimp only at *;subst hc;unfold wJ hT zK wH vB yB RX;refine eM call192 λF hF=>?_
 refine zW k1 ?_;exact zL
theorem zMr (c:Cf) (d:xQ) (s now k:Int) (pa:List Int) (h0:1<=k) (h1:k<=12) (k2:zO 80 [iA k,zD yA pa] [] (deT k (pa.take 10) none) []):zO 192 [wJ c,zK d,iA s,vB ⟨0,k,pa⟩,iA now] [] (hT d RX (-1) 6) []:=by
 have k1:=fO k;rw[zYu ⟨h0,h1⟩]at k1;unfold deT yB at k2;unfold wJ hT zK wH vB yB RX;refine eM call192 λF hF=>?_
 refine xA (vD k1 k2) ?_;exact zL
theorem zMs (c:Cf) (d:xQ) (s now k:Int) (pa tk0 ar:List Int) (h0:1<=k) (h1:k<=12) (k2:zO 80 [iA k,zD yA pa] [] (.tup [yB ⟨k,tk0,ar,[]⟩,iA 0]) []) (r:Rg) (sl e:Int) (he:e≠0)
  (k3:zO 213 [qG d.rg,yB ⟨k,tk0,ar,[]⟩,iA now] [] (.tup [qG r,iA sl,iA e]) []):zO 192 [wJ c,zK d,iA s,vB ⟨0,k,pa⟩,iA now] [] (hT d RX (-1) e) []:=by
 have k1:=fO k;rw[zYu ⟨h0,h1⟩]at k1;unfold yB at k2 k3;unfold qG at k3;unfold wJ hT zK wH vB yB RX;refine eM call192 λF hF=>?_
 refine xA (gK k1 k2 k3) ?_;exact zL
def wB (d:xQ) (r:Rg):xQ:=⟨r,d.rq,d.dr,d.au⟩
section
variable (c:Cf) (d:xQ) (s now k:Int) (pa tk0 ar:List Int) (h0:1<=k) (h1:k<=12) (k2:zO 80 [iA k,zD yA pa] [] (.tup [yB ⟨k,tk0,ar,[]⟩,iA 0]) []) (r:Rg) (sl:Int)
 (k3:zO 213 [qG d.rg,yB ⟨k,tk0,ar,[]⟩,iA now] [] (.tup [qG r,iA sl,iA 0]) [])
include h0 h1 k2 k3
theorem zR6 (hk:k=2∨k=3∨k=4∨k=5) (d':xQ) (p:Ms) (e:Int) (k4:zO 214 [zK (wB d r),yB ⟨k,tk0,ar,[]⟩,iA sl,iA now] [] (.tup [zK d',yB p,iA e]) []):
  zO 192 [wJ c,zK d,iA s,vB ⟨0,k,pa⟩,iA now] [] (hT d' p (-1) e) []:=by
 have k1:=fO k;rw[zYu ⟨h0,h1⟩]at k1;unfold yB at k2 k3 k4;unfold qG at k3;unfold wB zK wH at k4;unfold wJ hT zK wH vB yB
 rcases hk with rfl|rfl|rfl|rfl
 all_goals
  refine eM call192 λF hF=>?_
  refine xA (aG k1 k2 k3 k4) ?_;exact zL
theorem KV (hk:k=6∨k=7∨k=8) (l:List Rq) (e:Int) (he:e≠0) (k4:zO 215 [wJ c,zK (wB d r),yB ⟨k,tk0,ar,[]⟩,iA sl,iA now] [] (.tup [zD yL l,iA e]) []):
  zO 192 [wJ c,zK d,iA s,vB ⟨0,k,pa⟩,iA now] [] (hT (wB d r) RX (-1) e) []:=by
 have k1:=fO k;rw[zYu ⟨h0,h1⟩]at k1;unfold yB at k2 k3 k4;unfold qG at k3;unfold wB wJ zK wH at k4;unfold wB wJ hT zK wH vB yB RX
 rcases hk with rfl|rfl|rfl
 all_goals
  refine eM call192 λF hF=>?_
  refine xA (aG k1 k2 k3 k4) ?_;exact zL
theorem KW (hk:k=6∨k=7∨k=8) (a:Int) (as1:List Int) (har:ar=a::as1) (l:List Rq) (k4:zO 215 [wJ c,zK (wB d r),yB ⟨k,tk0,ar,[]⟩,iA sl,iA now] [] (.tup [zD yL l,iA 0]) []):
  zO 192 [wJ c,zK d,iA s,vB ⟨0,k,pa⟩,iA now] [] (hT (dkQ (wB d r) l) (gG k a) (-1) 0) []:=by
 subst har;have k1:=fO k;have k5:=JJ k a;rw[zYu ⟨h0,h1⟩]at k1;unfold gG yB at k5;rw[show yB ⟨k,tk0,a::as1,[]⟩= .agg [iA k,zD yA tk0,.sl false (iA a::as1.map iA),.sl false []]from rfl]at k2 k3 k4;generalize as1.map iA=A at *;unfold qG at k3;unfold wB wJ zK wH at k4;unfold dkQ wB wJ hT zK wH vB gG yB
 rcases hk with rfl|rfl|rfl
 all_goals
  refine eM call192 λF hF=>?_
  refine xA (zt5 k1 k2 k3 k4 k5) ?_;exact zL
theorem KX (hk:k=1∨k=9∨k=12) (p:Ms) (k4:zO 217 [zK (wB d r),iA k,iA now] [] (yB p) []):
  zO 192 [wJ c,zK d,iA s,vB ⟨0,k,pa⟩,iA now] [] (hT (wB d r) p (-1) 0) []:=by
 have k1:=fO k;rw[zYu ⟨h0,h1⟩]at k1;unfold yB at k2 k3 k4;unfold qG at k3;unfold wB zK wH at k4;unfold wB wJ hT zK wH vB yB
 rcases hk with rfl|rfl|rfl
 all_goals
  refine eM call192 λF hF=>?_
  refine xA (aG k1 k2 k3 k4) ?_;exact zL
theorem zMt (hk:k=11) (a:Int) (har:ar=[a]) (ha:(c.js.length:Int)<=a):
  zO 192 [wJ c,zK d,iA s,vB ⟨0,k,pa⟩,iA now] [] (hT (wB d r) RX (-1) 8) []:=by
 subst hk har;have k1:=fO 11;have hlj:=zA wC c.js;rw[show yB ⟨11,tk0,[a],[]⟩= .agg [iA 11,zD yA tk0,.sl false [iA a],.sl false []]from rfl]at k2 k3;unfold qG at k3;unfold wB wJ hT zK wH vB RX yB;refine eM call192 λF hF=>?_
 refine xA (gK k1 k2 k3) ?_;exact zL
theorem zMu (hk:k=11) (a:Int) (har:ar=[a]) (ha:a<(c.js.length:Int)):
  zO 192 [wJ c,zK d,iA s,vB ⟨0,k,pa⟩,iA now] [] (hT (wB d r) (gG 11 a) a 0) []:=by
 subst hk har;have k1:=fO 11;have k5:=JJ 11 a;have hlj:=zA wC c.js;unfold gG yB at k5;rw[show yB ⟨11,tk0,[a],[]⟩= .agg [iA 11,zD yA tk0,.sl false [iA a],.sl false []]from rfl]at k2 k3;unfold qG at k3;unfold wB wJ hT zK wH vB gG yB;refine eM call192 λF hF=>?_
 refine xA (aG k1 k2 k3 k5) ?_;exact zL
theorem zMv (hk:k=10) (a:Int) (har:ar=[a]) (ha:1<a):
  zO 192 [wJ c,zK d,iA s,vB ⟨0,k,pa⟩,iA now] [] (hT (wB d r) RX (-1) 8) []:=by
 subst hk har;have k1:=fO 10;rw[show yB ⟨10,tk0,[a],[]⟩= .agg [iA 10,zD yA tk0,.sl false [iA a],.sl false []]from rfl]at k2 k3;unfold qG at k3;unfold wB wJ hT zK wH vB RX yB;refine eM call192 λF hF=>?_
 refine xA (gK k1 k2 k3) ?_;exact zL
theorem zMw (hk:k=10) (a:Int) (har:ar=[a]) (ha:a<=1) (hs:¬(0<=s/\s<(d.au.length:Int))):
  zO 192 [wJ c,zK d,iA s,vB ⟨0,k,pa⟩,iA now] [] (hT (wB d r) (gG 10 a) (-1) 0) []:=by
 subst hk har;have k1:=fO 10;have k5:=JJ 10 a;have hla:=zA bA d.au;unfold gG yB at k5;rw[show yB ⟨10,tk0,[a],[]⟩= .agg [iA 10,zD yA tk0,.sl false [iA a],.sl false []]from rfl]at k2 k3;unfold qG at k3;unfold wB wJ hT zK wH vB gG yB;by_cases h2:0<=s
 ·have h3:(d.au.length:Int)<=s:=by omega
  refine eM call192 λF hF=>?_
  refine xA (aG k1 k2 k3 k5) ?_;exact zL
 ·(refine eM call192 λF hF=>?_)
  refine xA (aG k1 k2 k3 k5) ?_;exact zL
end
section
variable (c:Cf) (d:xQ) (s now:Int) (tk0:List Int) (sl:Int)
theorem zF8:yU [wJ c,zK d,iA s,yB ⟨1,tk0,[],[]⟩,iA sl,iA now] [] (hT d (PF d now) (-1) 0) []:=yG
theorem zR7 (k:Int) (ar:List Int) (a:Int) (ar1:List Int) (har:ar=a::ar1) (hk:k=2∨k=3∨k=4∨k=5) (d':xQ) (p:Ms) (e:Int) (k4:yU [zK d,yB ⟨k,tk0,ar,[]⟩,iA sl,iA now] [] (.tup [zK d',yB p,iA e]) []):
 yU [wJ c,zK d,iA s,yB ⟨k,tk0,ar,[]⟩,iA sl,iA now] [] (hT d' p (-1) e) []:=yG
theorem zF9 (ar:List Int) (a:Int) (ar1:List Int) (har:ar=a::ar1) (h0:0<=sl) (h1:sl<(d.rg.tk.length:Int)) (d':xQ) (e:Int) (k4:yU [wJ c,zK d,yB ⟨6,tk0,ar,[]⟩,iA (d.rg.tk.getD sl.toNat default).cls,iA now] [] (.tup [zK d',iA e]) []):
 yU [wJ c,zK d,iA s,yB ⟨6,tk0,ar,[]⟩,iA sl,iA now] [] (hT d' (gG 6 a) (-1) e) []:=yG
theorem zGa (ar:List Int) (a:Int) (ar1:List Int) (har:ar=a::ar1) (d':xQ) (e:Int) (k4:yU [zK d,yB ⟨7,tk0,ar,[]⟩,iA now] [] (.tup [zK d',iA e]) []):
 yU [wJ c,zK d,iA s,yB ⟨7,tk0,ar,[]⟩,iA sl,iA now] [] (hT d' (gG 7 a) (-1) e) []:=yG
theorem zR8 (a:Int) (l:List Rq) (e:Int) (k4:yU [zD yL d.rq,iA a] [] (.tup [zD yL l,iA e]) []):
 yU [wJ c,zK d,iA s,yB ⟨8,tk0,[a],[]⟩,iA sl,iA now] [] (hT (dkQ d (if e=0 then l else d.rq)) (gG 8 a) (-1) e) []:=yG
theorem zMx (k4:yU [zK d] [] (yB (bY d)) []):yU [wJ c,zK d,iA s,yB ⟨12,tk0,[],[]⟩,iA sl,iA now] [] (hT d (bY d) (-1) 0) []:=yG
theorem zMy (a:Int) (ha:(c.js.length:Int)<=a):yU [wJ c,zK d,iA s,yB ⟨11,tk0,[a],[]⟩,iA sl,iA now] [] (hT d (gG 11 a) (-1) 8) []:=yG
theorem zMz (a:Int) (ha:a<(c.js.length:Int)):yU [wJ c,zK d,iA s,yB ⟨11,tk0,[a],[]⟩,iA sl,iA now] [] (hT d (gG 11 a) a 0) []:=yG
theorem zM0 (a:Int) (ha:1<a):yU [wJ c,zK d,iA s,yB ⟨10,tk0,[a],[]⟩,iA sl,iA now] [] (hT d (gG 10 a) (-1) 8) []:=yG
theorem zM1 (a:Int) (ha:a<=1) (hs:¬(0<=s/\s<(d.au.length:Int))):yU [wJ c,zK d,iA s,yB ⟨10,tk0,[a],[]⟩,iA sl,iA now] [] (hT d (gG 10 a) (-1) 0) []:=yG
theorem zM2 (hb:eU d):yU [wJ c,zK d,iA s,yB ⟨9,tk0,[],[]⟩,iA sl,iA now] [] (hT d (PG d) (-1) 0) []:=yG
end
def VC (d:xQ):AV:=wH d.rg (zD yL d.rq) (zD qV d.dr) (.ref 1004 0 (d.au.map bA).length)
def BI (l:List Bool):xP:= .arr 1 (l.map bA) false
def hTO (d:xQ) (p:Ms) (k e:Int):AV:= .tup [VC d,yB p,iA k,iA e]
theorem zGb (l:List Bool) (h1:1<=l.length) (hl:l.length<=1073741824):zO 154 [zD bA l] [] (.ref 1004 0 (l.map bA).length) [(1004,BI l)]:=by
 have hll:=zA bA l;unfold BI;refine eM call154 λF hF=>?_
 refine xD 0 rfl (λcap hx=>?_) ?_
 ·have:l=[]:=by simpa using hx
  subst this;simp at h1
 ·repeat' (first|(refine zE ?_;first|refine wZ tok rfl rfl ?_|(refine wS ?_;refine yF (yM tok (.inl ⟨rfl,rfl⟩) rfl rfl rfl rfl) rfl ?_)|(refine yZ ?_;refine uF (nw:=[1004]) (yK tok 1004 (xs:=[]) rfl rfl rfl rfl rfl rfl rfl rfl rfl) rfl rfl rfl ?_)|(refine yW ?_;refine xX tok rfl rfl rfl rfl rfl rfl rfl (yY _ _ (λ_=>rfl)) rfl rfl rfl zB rfl ?_)|refine uM ?_)|(first|refine xM ?_|refine xB ?_|refine wU rfl ?_|refine zV rfl ?_|refine zQ rfl ?_|refine xF rfl (λhc=>?_) (λhc=>?_)|refine yV ?_|refine yQ ?_|refine xC ?_|refine yN ?_))
  exact zJ [1004] rfl rfl rfl rfl
theorem VD (d:xQ) (hb:eU d) (h1:1<=d.au.length):zO 102 [zK d] [] (VC d) [(1004,BI d.au)]:=by
 have k1:=JH d.rg hb.rg;have hq:=hb.q;have hdn:=hb.n;have hau:=hb.a;have k2:=XL d.rq zB;have k3:=PE d.dr zB;have k4:=zGb d.au h1 zB;have hlq:=zA yL d.rq;have hld:=zA qV d.dr;unfold VC zK wH;unfold BI at *;unfold qG at k1;refine eM call102 λF hF=>?_
 refine xA (vD k1 k2) ?_;refine zP ((d.rq.map yL).length) [1001,1,2] [1,2] [1,2,15] [16,1,2,15] rfl (λi T U=>⟨(16,iA i)::T,(1001,.arr 5 (jC i (d.rq.map yL)) false)::U⟩) ?_;(conv=>whnf);refine⟨by rfl,?_,?_⟩
 ·intro i hi;have hi':i<d.rq.length:=by omega
  have hy:(jC i (d.rq.map yL))[i]? =some (yL (d.rq.getD i default)):=zN yL d.rq i hi';have e:=kO yL d.rq i hi';have c2:=cT (d.rq.getD i default).legs (hb.g (d.rq.getD i default) aH);generalize (d.rq.getD i default)=t at *;generalize jC i (d.rq.map yL)=xs at *;generalize jC (i+1) (d.rq.map yL)=ys at *;subst e;refine zW c2 ?_;rfl
 ·(refine zW k3 ?_)
  refine zP ((d.dr.map qV).length) [1002,1,2,1001] [1,2,1001] [1,2,38] [39,1,2,38] rfl (λi T U=>⟨(39,iA i)::T,(1002,.arr 1 (jC i (d.dr.map qV)) false)::U⟩) ?_;(conv=>whnf);refine⟨by rfl,?_,?_⟩
  ·intro i hi;have hi':i<d.dr.length:=by omega
   have hy:(jC i (d.dr.map qV))[i]? =some (qV (d.dr.getD i default)):=zN qV d.dr i hi';have e:=kO qV d.dr i hi';have c2:=wK (d.dr.getD i default) (by have:=hb.e (d.dr.getD i default) aH;omega);generalize (d.dr.getD i default)=t at *;generalize jC i (d.dr.map qV)=xs at *;generalize jC (i+1) (d.dr.map qV)=ys at *;subst e;refine zW c2 ?_;rfl
  ·(refine zW k4 ?_)
   refine zI [1004] rfl rfl ?_ rfl
   show wH d.rg (.sl false ((d.rq.map yL).take (d.rq.map yL).length)) (.sl false ((d.dr.map qV).take (d.dr.map qV).length)) (.ref 1004 0 (d.au.map bA).length)=_
   rw[zYv,zYv];rfl
theorem AF (d:xQ) (hb:eU d):yU [zK d] [] (VC d) [(1004,BI d.au)]:=yG
theorem zM3 (c:Cf) (d:xQ) (s now:Int) (pa tk0:List Int) (a:Int) (h0:0<=a) (h1:a<=1) (k2:zO 80 [iA 10,zD yA pa] [] (.tup [yB ⟨10,tk0,[a],[]⟩,iA 0]) []) (r:Rg) (sl:Int)
  (k3:zO 213 [qG d.rg,yB ⟨10,tk0,[a],[]⟩,iA now] [] (.tup [qG r,iA sl,iA 0]) []) (hs:0<=s/\s<(d.au.length:Int)):
  zO 192 [wJ c,VC d,iA s,vB ⟨0,10,pa⟩,iA now] [(1004,BI d.au)] (hTO ⟨r,d.rq,d.dr,d.au.set s.toNat (a==1)⟩ (gG 10 a) (-1) 0) [(1004,BI (d.au.set s.toNat (a==1)))]:=by
 have k1:=fO 10;have k5:=JJ 10 a;have hla:=zA bA d.au;have hya:=zN bA d.au s.toNat zB;unfold gG yB at k5;rw[show yB ⟨10,tk0,[a],[]⟩= .agg [iA 10,zD yA tk0,.sl false [iA a],.sl false []]from rfl]at k2 k3;unfold qG at k3;have hls:(d.au.set s.toNat (a==1)).map bA=(d.au.map bA).set s.toNat (bA (a==1)):=yAw;unfold wJ hTO VC wH vB gG yB BI;dsimp only;rw[hls,yAk];generalize d.au.getD s.toNat default=b0 at *;generalize d.au.map bA=xs at*
 obtain rfl|rfl:a=0∨a=1:=by omega
 all_goals
  refine eM call192 λF hF=>?_
  refine MM (aG k1 k2 k3 k5) ?_;exact zI [1004] rfl rfl rfl rfl
theorem zM4 (c:Cf) (d:xQ) (s now:Int) (tk0:List Int) (sl:Int) (a:Int) (h0:0<=a) (h1:a<=1) (hs:0<=s/\s<(d.au.length:Int)):
 yU [wJ c,VC d,iA s,yB ⟨10,tk0,[a],[]⟩,iA sl,iA now] [(1004,BI d.au)] (hTO ⟨d.rg,d.rq,d.dr,d.au.set s.toNat (a==1)⟩ (gG 10 a) (-1) 0) [(1004,BI (d.au.set s.toNat (a==1)))]:=yG
def jL (k e:Int):Ms:=⟨15,[],[k,e],[]⟩
def MI (a k e:Int):AV:= .agg [iA a,iA k,iA e]
structure Hd where
 d:xQ
 p:Ms
 k:Int
 e:Int
def FC (n ki:Int) (h:Hd):AV:= .tup [zK h.d,yB h.p,MI n ki h.e,iA h.k]
def PC (d:xQ):AV:=wH d.rg (zD yL d.rq) (.ref 1005 0 (d.dr.map qV).length) (zD bA d.au)
def dkD (d:xQ):xP:= .arr 1 (d.dr.map qV) true
def FD (n ki:Int) (h:Hd):AV:= .tup [PC h.d,yB h.p,MI n ki h.e,iA h.k]
theorem gN (d:xQ) (hb:eU d):yU [zK d] [] (PC d) [(1005,dkD d)]:=yG
def AG (c:Cf) (d:xQ) (s now:Int) (i:It) (h:Hd):Prop:=
 yU [wJ c,zK d,iA s,vB i,iA now] [] (FC d.rg.num i.kind h) []/\yU [wJ c,zK d,iA s,vB i,iA now] [] (FD d.rg.num i.kind h) [(1005,dkD h.d)]
def hdM (ki:Int) (d:xQ) (p:Ms) (k e:Int):Hd:=if e=0 then⟨d,p,k,0⟩else⟨d,jL ki e,-1,e⟩
theorem zQx (c:Cf) (d:xQ) (s now:Int) (i:It) (hb:eU d) (d':xQ) (p:Ms) (k e:Int) (k4:zO 192 [wJ c,zK d,iA s,vB i,iA now] [] (hT d' p k e) []):
  zO 158 [wJ c,zK d,iA s,vB i,iA now] [] (FC d'.rg.num i.kind (hdM i.kind d' p k e)) []:=by
 have k1:=cQ d hb;unfold hT wJ vB at k4;unfold wJ vB;unfold zK wH yB at *;by_cases he:e=0
 ·subst he;unfold hdM FC MI zK wH yB;rw[zYp rfl];refine eM call158 λF hF=>?_
  refine MM (vD k1 k4) ?_;exact zL
 ·unfold hdM FC MI jL zK wH yB;rw[zYo he];refine eM call158 λF hF=>?_
  refine MM (vD k1 k4) ?_;exact zL
theorem zR9 (c:Cf) (d:xQ) (s now:Int) (i:It) (hb:eU d) (h1:1<=d.au.length) (d':xQ) (p:Ms) (k:Int) (k4:zO 192 [wJ c,VC d,iA s,vB i,iA now] [(1004,BI d.au)] (hTO d' p k 0) [(1004,BI d'.au)]):
  zO 158 [wJ c,zK d,iA s,vB i,iA now] [] (FC d'.rg.num i.kind ⟨d',p,k,0⟩) []:=by
 have k1:=VD d hb h1;unfold hTO wJ vB at k4;unfold wJ vB;unfold BI VC at *;unfold zK wH yB at *;unfold FC MI zK wH yB;refine eM call158 λF hF=>?_
 refine MM (vD k1 k4) ?_;refine zI [] rfl rfl ?_ rfl
 show AV.tup [wH d'.rg (zD yL d'.rq) (zD qV d'.dr) (.sl false ((d'.au.map bA).take (d'.au.map bA).length)),yB p,MI d'.rg.num i.kind 0,iA k]=_
 rw[zYv];rfl
section
variable (c:Cf) (d:xQ) (s now:Int) (hb:eU d)
include hb
theorem zM5 (i:It) (hc:i.code≠0):AG c d s now i ⟨d,jL i.kind i.code,-1,i.code⟩:=by
 have kd:=gN d hb;have k1:=jM d hb;unfold AG wJ FC FD jL MI vB zK PC dkD wH yB at *;refine⟨?_,?_⟩
 ·exact yG
 ·exact yG
theorem zM6 (i:It) (hc:i.code=0) (hk:¬(1<=i.kind/\i.kind<=12)):AG c d s now i ⟨d,jL i.kind 5,-1,5⟩:=by
 have kd:=gN d hb;have k1:=jM d hb;have k2:=ZV i.kind;rw[zYw hk]at k2;obtain⟨co,ki,pa⟩:=i;dsimp only at *;subst hc;unfold AG wJ FC FD jL MI vB zK PC dkD wH yB at *;refine⟨?_,?_⟩
 ·exact yG
 ·exact yG
theorem zM7 (k:Int) (pa:List Int) (h0:1<=k) (h1:k<=12) (k3:yU [iA k,zD yA pa] [] (deT k (pa.take 10) none) []):AG c d s now ⟨0,k,pa⟩ ⟨d,jL k 6,-1,6⟩:=by
 have kd:=gN d hb;have k1:=jM d hb;have k2:=ZV k;rw[zYu ⟨h0,h1⟩]at k2;unfold deT yB at k3;unfold AG wJ FC FD jL MI vB zK PC dkD wH yB at *;refine⟨?_,?_⟩
 ·exact yG
 ·exact yG
variable (k:Int) (pa tk0 ar:List Int) (h0:1<=k) (h1:k<=12) (k3:yU [iA k,zD yA pa] [] (.tup [yB ⟨k,tk0,ar,[]⟩,iA 0]) [])
include h0 h1 k3
theorem zM8 (r:Rg) (sl e:Int) (he:e≠0) (k4:yU [qG d.rg,yB ⟨k,tk0,ar,[]⟩,iA now] [] (.tup [qG r,iA sl,iA e]) []):
  AG c d s now ⟨0,k,pa⟩ ⟨d,jL k e,-1,e⟩:=by
 have kd:=gN d hb;have k1:=jM d hb;have k2:=ZV k;rw[zYu ⟨h0,h1⟩]at k2;unfold qG at k4;unfold AG wJ FC FD jL MI vB zK PC dkD wH yB at *;refine⟨?_,?_⟩
 ·exact yG
 ·exact yG
theorem zQy (r:Rg) (sl:Int) (k4:yU [qG d.rg,yB ⟨k,tk0,ar,[]⟩,iA now] [] (.tup [qG r,iA sl,iA 0]) []) (d':xQ) (hb':eU d') (p:Ms) (kk e:Int)
  (k5:yU [wJ c,zK (wB d r),iA s,yB ⟨k,tk0,ar,[]⟩,iA sl,iA now] [] (hT d' p kk e) []):
  AG c d s now ⟨0,k,pa⟩ (hdM k d' p kk e):=by
 have kd:=gN d' hb';have k1:=jM d hb;have k6:=jM d' hb';have k2:=ZV k;rw[zYu ⟨h0,h1⟩]at k2;unfold qG at k4;unfold hT wB at k5;unfold AG wJ vB zK PC dkD wH yB at *;by_cases he:e=0
 ·subst he;unfold hdM FC FD MI zK PC wH yB;rw[zYp rfl];refine⟨?_,?_⟩
  ·exact yG
  ·exact yG
 ·unfold hdM FC FD MI jL zK PC wH yB;rw[zYo he];refine⟨?_,?_⟩
  ·exact yG
  ·exact yG
theorem zSa (r:Rg) (sl:Int) (k4:yU [qG d.rg,yB ⟨k,tk0,ar,[]⟩,iA now] [] (.tup [qG r,iA sl,iA 0]) []) (d':xQ) (hb':eU d') (p:Ms) (kk:Int)
  (k5:yU [wJ c,VC (wB d r),iA s,yB ⟨k,tk0,ar,[]⟩,iA sl,iA now] [(1004,BI d.au)] (hTO d' p kk 0) [(1004,BI d'.au)]):
  AG c d s now ⟨0,k,pa⟩ ⟨d',p,kk,0⟩:=by
 have kd:=gN d' hb';have k1:=AF d hb;have k6:=jM d' hb';have k2:=ZV k;rw[zYu ⟨h0,h1⟩]at k2;unfold qG at k4;unfold hTO wB at k5;unfold BI VC at *;unfold AG wJ vB zK PC dkD wH yB at *;unfold FC FD MI zK PC wH yB;refine⟨?_,?_⟩
 ·exact yG
 ·exact yG
end
theorem zM9 (r:Rg) (m:Ms) (now:Int) (hr:FT r) (hm:BY m.tok) (hl:r.bk.level<=1000000):yU [qG r,yB m,iA now] [] (.tup [qG (opR r m now),iA (opS r m now),iA (opE r m now)]) []:=yG
end Av
end Go.Proofs.YtmamjhmoegjapaaGreat
