/- Part 20. -/
import Derived.Test.YteajjdidebfcjaaGreatN19
namespace Go.Proofs.YteajjdidebfcjaaGreat
namespace Av
open Tryz
set_option linter.all false
set_option maxRecDepth 4000
set_option maxHeartbeats 4000000
def do5 (r:Rg) (hgv:gvF r=true) (tkn:List Int) (a s now:Int) (sec:List Int) (hu:fN r.tk s=true) (hs:(sec.length:Int)=0∨(sec.length:Int)=8)
  (m1:zO 195 [yB ⟨5,tkn,[a],[]⟩] [] (bA true) []) (m2:zO 98 [yB ⟨5,tkn,[a],[]⟩] [] (bA true) []):XS r ⟨5,tkn,[a],[]⟩ s now sec:=by
 have H:=zM5 hgv;have c1:=ZE r MU;have k1:=cP r MU;rw[hgv]at c1 k1;have c3:=UH r.tk s;rw[hu]at c3;have c4:=eV r H.b;have k4:=QF r H.b;have c6:=zTt ⟨5,tkn,[a],[]⟩ a Z;have k6:=zB0 5 a;rw[show yB ⟨14,[],[(⟨5,tkn,[a],[]⟩:Ms).kind,a],[]⟩= .agg [iA 14,.sl false [],.sl false [iA 5,iA a],.sl false []]from Z]at c6;rw[show yB ⟨14,[],[5,a],[]⟩= .agg [iA 14,.sl false [],.sl false [iA 5,iA a],.sl false []]from Z]at k6;obtain⟨o,e,⟨heb,_⟩,ho,c5,k5⟩:=AB r.vh MU a;have hls:=zA yA sec;have hlt:=zA xB r.tk;have hl1:([a].map iA).length=1:=rfl
 have hU:(r.tk.getD s.toNat default).used=true/\0<=s/\s<8:=by
  unfold fN at hu;rw[yBq,yBi]at hu;exact⟨hu.2,hu.1.1,by have:=H.n8;omega⟩
 have hn8:=H.n8;have hy:=yL xB r.tk s hU.2.1 zB;have ho9:o.length<=8:=by have:=H.vl;omega
 have hbR:CP (rgV r o):=⟨H.b.tk,H.b.s,H.b.l,by have:=H.vl;show o.length<=_;omega⟩;obtain⟨hU,hs0,hs8⟩:=hU;clear hu H hgv;generalize r.tk.getD s.toNat default=x at *;obtain⟨xu,x1,x2,x3,x4,x5⟩:=x;dsimp only at hU;subst hU;rw[show xB ⟨true,x1,x2,x3,x4,x5⟩= .agg [bA true,zD yA x1,iA x2,iA x3,iA x4,iA x5]from Z]at hy;by_cases he:e=0
 ·subst he;refine⟨rgV r o,⟨14,[],[5,a],[]⟩,false,0,hbR,⟨yBt _,by simp,yBt _⟩,⟨λh=>absurd Z h,λ_=> .inr ⟨o,ho9,rfl,rfl,.inr Z,rfl⟩⟩,?_,?_⟩
  ·rw[show yB ⟨14,[],[5,a],[]⟩= .agg [iA 14,.sl false [],.sl false [iA 5,iA a],.sl false []]from Z]
   rcases hs with hs|hs
   all_goals
    refine eM call220 λF hF=>?_
    refine yS (zt6 c1 m1 c3 c4 c5 c6) ?_;exact zJ
  ·rw[show yB ⟨14,[],[5,a],[]⟩= .agg [iA 14,.sl false [],.sl false [iA 5,iA a],.sl false []]from Z]
   rcases hs with hs|hs
   all_goals
    exact yF
 ·refine .bad e he ?_ ?_
  ·rw[cC]
   rcases hs with hs|hs
   all_goals
    refine eM call220 λF hF=>?_
    refine yS (zt6 c1 m1 c3 c4 c5 c6) ?_;exact zJ
  ·rw[cC]
   rcases hs with hs|hs
   all_goals
    exact yF
def AL (r:Rg) (a b s:Int) (n8:r.tk.length=8) (h0:0<=s) (h8:s<8) (o:List Vh) (e:Int) (c:zO 268 [zD vY r.vh,vB (agC r.ag (min r.ag.cls (r.tk.getD s.toNat default).cls)),vY ⟨a,b⟩] [] (.tup [zD vY o,iA e]) []):
  zO 240 [uZ r,zD iA [a,b],iA s] [] (.tup [zD vY o,iA e]) []:=by
 have hlt:=zA xB r.tk;have hl1:([a,b].map iA).length=2:=rfl;have hy:=yL xB r.tk s h0 zB;generalize r.tk.getD s.toNat default=x at *;obtain⟨xu,x1,x2,x3,x4,x5⟩:=x;rw[show xB ⟨xu,x1,x2,x3,x4,x5⟩= .agg [bA xu,zD yA x1,iA x2,iA x3,iA x4,iA x5]from Z]at hy;rw[show(⟨xu,x1,x2,x3,x4,x5⟩:Tk).cls=x4 from Z]at c;have hAG:vB (agC r.ag (min r.ag.cls x4))= .agg [zD yA r.ag.sec,iA r.ag.rights,iA (min r.ag.cls x4),zD iA r.ag.lim,iA r.ag.req,iA r.ag.ses,iA r.ag.rate,iA r.ag.burst]:=rfl;rw[hAG]at c;rw[show vY ⟨a,b⟩= .agg [iA a,iA b]from Z]at c;refine eM call240 λF hF=>?_
 refine zW c ?_;exact zJ
def do4 (r:Rg) (hgv:gvF r=true) (tkn:List Int) (a b s now:Int) (sec:List Int) (hu:fN r.tk s=true) (hs:(sec.length:Int)=0∨(sec.length:Int)=8)
  (m1:zO 195 [yB ⟨4,tkn,[a,b],[]⟩] [] (bA true) []) (m2:zO 98 [yB ⟨4,tkn,[a,b],[]⟩] [] (bA true) []):XS r ⟨4,tkn,[a,b],[]⟩ s now sec:=by
 have H:=zM5 hgv;have c1:=ZE r MU;have k1:=cP r MU;rw[hgv]at c1 k1;have c3:=UH r.tk s;rw[hu]at c3;have c4:=eV r H.b;have k4:=QF r H.b
 have c6:zO 239 [yB ⟨4,tkn,[a,b],[]⟩] [] (yB ⟨14,[],[4,a],[]⟩) []:=by
  have hl1:([a,b].map iA).length=2:=rfl;refine eM call239 λF hF=>?_
  refine WL ?_;exact zJ
 have k6:=zB0 4 a;rw[show yB ⟨14,[],[4,a],[]⟩= .agg [iA 14,.sl false [],.sl false [iA 4,iA a],.sl false []]from Z]at c6 k6;obtain⟨o,e,⟨heb,_⟩,⟨ho,ho8⟩,cv,k5⟩:=MV r.vh MU r.ag (r.tk.getD s.toNat default).cls H.lim H.cls.2 ⟨a,b⟩;have hls:=zA yA sec;have hlt:=zA xB r.tk;have hl1:([a,b].map iA).length=2:=rfl
 have hU:(r.tk.getD s.toNat default).used=true/\0<=s/\s<8:=by
  unfold fN at hu;rw[yBq,yBi]at hu;exact⟨hu.2,hu.1.1,by have:=H.n8;omega⟩
 have hn8:=H.n8;have hy:=yL xB r.tk s hU.2.1 zB;have ho9:o.length<=8:=by have:=H.vl;omega
 have hbR:CP (rgV r o):=⟨H.b.tk,H.b.s,H.b.l,by have:=H.vl;show o.length<=_;omega⟩;obtain⟨hU,hs0,hs8⟩:=hU;have c5:=AL r a b s hn8 hs0 hs8 o e cv;clear hu H hgv cv;generalize r.tk.getD s.toNat default=x at *;obtain⟨xu,x1,x2,x3,x4,x5⟩:=x;dsimp only at hU;subst hU;rw[show xB ⟨true,x1,x2,x3,x4,x5⟩= .agg [bA true,zD yA x1,iA x2,iA x3,iA x4,iA x5]from Z]at hy;rw[show(⟨true,x1,x2,x3,x4,x5⟩:Tk).cls=x4 from Z,show vY ⟨a,b⟩= .agg [iA a,iA b]from Z,show vB r.ag= .agg [zD yA r.ag.sec,iA r.ag.rights,iA r.ag.cls,zD iA r.ag.lim,iA r.ag.req,iA r.ag.ses,iA r.ag.rate,iA r.ag.burst]from Z]at k5;by_cases he:e=0
 ·subst he;refine⟨rgV r o,⟨14,[],[4,a],[]⟩,false,0,hbR,⟨yBt _,by simp,yBt _⟩,⟨λh=>absurd Z h,λ_=> .inr ⟨o,ho9,rfl,rfl,.inl Z,rfl⟩⟩,?_,?_⟩
  ·rw[show yB ⟨14,[],[4,a],[]⟩= .agg [iA 14,.sl false [],.sl false [iA 4,iA a],.sl false []]from Z]
   rcases hs with hs|hs
   all_goals
    refine eM call220 λF hF=>?_
    refine yS (zt6 c1 m1 c3 c4 c5 c6) ?_;exact zJ
  ·rw[show yB ⟨14,[],[4,a],[]⟩= .agg [iA 14,.sl false [],.sl false [iA 4,iA a],.sl false []]from Z]
   rcases hs with hs|hs
   all_goals
    exact yF
 ·refine .bad e he ?_ ?_
  ·rw[cC]
   rcases hs with hs|hs
   all_goals
    refine eM call220 λF hF=>?_
    refine yS (zt6 c1 m1 c3 c4 c5 c6) ?_;exact zJ
  ·rw[cC]
   rcases hs with hs|hs
   all_goals
    exact yF
def zGw:AV:= .agg [iA 0,.s (.slice none 0 0),.s (.slice none 0 0),.s (.slice none 0 0)]
def zB9 (r:Rg) (s R c life now e:Int) (he:¬e=0) (k:Nat) (sec:List Int)
  (c1:zO 265 [zD xB r.tk,iA s,iA R,iA c,iA life,zD yA (List.replicate 8 0),iA now] [] (.tup [.sl false [],iA k,iA e]) []):
  zO 237 [.ptr 14 0 0,zD iA [R,c,life],iA s,iA now,zD yA sec] [(14,RN r)] (.tup [zGw,iA e]) [(14,RN r)]:=by
 have hls:=zA yA sec;have hl3:([R,c,life].map iA).length=3:=rfl;unfold RN zGw;rw[show zD yA (List.replicate 8 0)= .sl false (List.replicate 8 (AV.s (.int .u8 0)))from Z]at c1;refine eM call237 λF hF=>?_
 (repeat' (first|refine WZX ?_|((first|apply xE|apply xV)<;>intro hc)|(refine zE ?_;first|refine SM ?_)|fail))
 refine kM (st':=⟨[(0,.ptr 14 0 0),(1,zD iA [R,c,life]),(2,iA s),(3,iA now),(4,zD yA sec),(10,.ptr 10 0 0),(11,iA 0),(12,.sl false (List.replicate 8 (AV.s (.int .u8 0))))],[(14,.box [iA r.num,zD yA r.ag.sec,iA r.ag.rights,iA r.ag.cls,zD iA r.ag.lim,iA r.ag.req,iA r.ag.ses,iA r.ag.rate,iA r.ag.burst,zD xB r.tk,zD vY r.vh,iA r.bk.level,iA r.bk.rate,iA r.bk.burst]),(10,.box [iA 0,.s (.slice none 0 0),.s (.slice none 0 0),.s (.slice none 0 0)])]⟩) [14,10] [0,1,2,3,4,10,11,12] Z Z ?_;refine zW c1 ?_;exact zK [14] Z Z Z Z
def zCa (r:Rg) (s R c life now:Int) (k:Nat) (l1:List Tk)
  (c1:zO 265 [zD xB r.tk,iA s,iA R,iA c,iA life,zD yA (List.replicate 8 0),iA now] [] (.tup [zD xB l1,iA k,iA 0]) []):
  zO 237 [.ptr 14 0 0,zD iA [R,c,life],iA s,iA now,zD yA []] [(14,RN r)] (.tup [zGw,iA 18]) [(14,RN r)]:=by
 have hls:(([]:List Int).map yA).length=0:=rfl;have hl3:([R,c,life].map iA).length=3:=rfl;unfold RN zGw;rw[show zD yA (List.replicate 8 0)= .sl false (List.replicate 8 (AV.s (.int .u8 0)))from Z]at c1;refine eM call237 λF hF=>?_
 (repeat' (first|refine WZX ?_|((first|apply xE|apply xV)<;>intro hc)|(refine zE ?_;first|refine SM ?_)|fail))
 refine kM (st':=⟨[(0,.ptr 14 0 0),(1,zD iA [R,c,life]),(2,iA s),(3,iA now),(4,zD yA []),(10,.ptr 10 0 0),(11,iA 0),(12,.sl false (List.replicate 8 (AV.s (.int .u8 0))))],[(14,.box [iA r.num,zD yA r.ag.sec,iA r.ag.rights,iA r.ag.cls,zD iA r.ag.lim,iA r.ag.req,iA r.ag.ses,iA r.ag.rate,iA r.ag.burst,zD xB r.tk,zD vY r.vh,iA r.bk.level,iA r.bk.rate,iA r.bk.burst]),(10,.box [iA 0,.s (.slice none 0 0),.s (.slice none 0 0),.s (.slice none 0 0)])]⟩) [14,10] [0,1,2,3,4,10,11,12] Z Z ?_;refine zW c1 ?_;exact zK [14] Z Z Z Z
def zCb (r:Rg) (hg:0<=r.num/\r.num<4) (s R c life now:Int) (sec:List Int) (hs:(sec.length:Int)=8) (k:Nat) (hk8:k<8) (l1 l2:List Tk)
  (c1:zO 265 [zD xB r.tk,iA s,iA R,iA c,iA life,zD yA (List.replicate 8 0),iA now] [] (.tup [zD xB l1,iA k,iA 0]) [])
  (c2:zO 265 [zD xB r.tk,iA s,iA R,iA c,iA life,zD yA sec,iA now] [] (.tup [zD xB l2,iA k,iA 0]) []):
  zO 237 [.ptr 14 0 0,zD iA [R,c,life],iA s,iA now,zD yA sec] [(14,RN r)] (.tup [.agg [iA 16,.s (.slice none 0 0),.sl false [iA k],zD yA (r.num::(k:Int)::sec)],iA 0]) [(14,RN (rgT r l2))]:=by
 have c3:=zNi r.num k sec zB zB zB zB zB;have hls:=zA yA sec;have hl3:([R,c,life].map iA).length=3:=rfl;unfold RN rgT;dsimp only;generalize r.num::(k:Int)::sec=by1 at *;rw[show zD yA (List.replicate 8 0)= .sl false (List.replicate 8 (AV.s (.int .u8 0)))from Z]at c1;refine eM call237 λF hF=>?_
 (repeat' (first|refine WZX ?_|((first|apply xE|apply xV)<;>intro hc)|(refine zE ?_;first|refine SM ?_)|fail))
 refine kM (st':=⟨[(0,.ptr 14 0 0),(1,zD iA [R,c,life]),(2,iA s),(3,iA now),(4,zD yA sec),(10,.ptr 10 0 0),(11,iA 0),(12,.sl false (List.replicate 8 (AV.s (.int .u8 0))))],[(14,.box [iA r.num,zD yA r.ag.sec,iA r.ag.rights,iA r.ag.cls,zD iA r.ag.lim,iA r.ag.req,iA r.ag.ses,iA r.ag.rate,iA r.ag.burst,zD xB r.tk,zD vY r.vh,iA r.bk.level,iA r.bk.rate,iA r.bk.burst]),(10,.box [iA 0,.s (.slice none 0 0),.s (.slice none 0 0),.s (.slice none 0 0)])]⟩) [14,10] [0,1,2,3,4,10,11,12] Z Z ?_;refine yS (gW c1 c2 c3) ?_;exact zK [14] Z Z Z Z
def AM (r:Rg) (n8:r.tk.length=8) (tkn:List Int) (R c life s now:Int) (hs0:0<=s) (hs8:s<8) (x1:List Int) (x2 x3 x4 x5:Int) (hy:(r.tk.map xB)[s.toNat]? =some (.agg [bA true,zD yA x1,iA x2,iA x3,iA x4,iA x5])) (k:Nat) (e f:Int) (hf:(e=0/\f=18)∨(¬e=0/\f=e)) (l1:List Tk)
 (k1:yU [uZ r] [] (bA true) []) (m2:zO 98 [yB ⟨2,tkn,[R,c,life],[]⟩] [] (bA true) []) (k4:yU [uZ r] [] (uZ r) [])
 (e1:yU [zD xB r.tk,iA s,iA R,iA c,iA life,zD yA (List.replicate 8 0),iA now] [] (.tup [zD xB l1,iA k,iA e]) []) (kb:zO 51 [iA r.num,iA k,zD yA []] [] (zD yA (r.num::(k:Int)::[])) []):
 yU [uZ r,yB ⟨2,tkn,[R,c,life],[]⟩,iA s,iA now,zD yA []] [] (doR f) []:=yF
def AN (r:Rg) (n8:r.tk.length=8) (tkn:List Int) (R c life s now:Int) (sec:List Int) (hsl:(sec.length:Int)=8) (hs0:0<=s) (hs8:s<8) (x1:List Int) (x2 x3 x4 x5:Int) (hy:(r.tk.map xB)[s.toNat]? =some (.agg [bA true,zD yA x1,iA x2,iA x3,iA x4,iA x5])) (k:Nat) (e:Int) (l1:List Tk)
 (k1:yU [uZ r] [] (bA true) []) (m2:zO 98 [yB ⟨2,tkn,[R,c,life],[]⟩] [] (bA true) []) (k4:yU [uZ r] [] (uZ r) [])
 (e1:yU [zD xB r.tk,iA s,iA R,iA c,iA life,zD yA sec,iA now] [] (.tup [zD xB l1,iA k,iA e]) []) (kb:zO 51 [iA r.num,iA k,zD yA sec] [] (zD yA (r.num::(k:Int)::sec)) []):
 yU [uZ r,yB ⟨2,tkn,[R,c,life],[]⟩,iA s,iA now,zD yA sec] [] (if e=0 then .tup [uZ (rgT r l1),yB ⟨16,[],[(k:Int)],r.num::(k:Int)::sec⟩,bA true,iA 0]else doR e) []:=yF
theorem do2 (r:Rg) (hgv:gvF r=true) (tkn:List Int) (R c life s now:Int) (sec:List Int) (hu:fN r.tk s=true) (hs:(sec.length:Int)=0∨(sec.length:Int)=8)
  (m1:zO 195 [yB ⟨2,tkn,[R,c,life],[]⟩] [] (bA true) []) (m2:zO 98 [yB ⟨2,tkn,[R,c,life],[]⟩] [] (bA true) []):XS r ⟨2,tkn,[R,c,life],[]⟩ s now sec:=by
 have H:=zM5 hgv;have c1:=ZE r MU;have k1:=cP r MU;rw[hgv]at c1 k1;have c3:=UH r.tk s;rw[hu]at c3;have c4:=eV r H.b;have k4:=QF r H.b;obtain⟨k,e,_,hk,hkf,hD⟩:=AC r.tk H.b.tk s R c life now;have hn8:=H.n8
 have hk8:k<8:=by rcases hk with h|h<;>omega
 have hT0:e=0->∀t,T0K r.tk (FM r.tk k e t):=λhe t h1 _=>by
  have h2:=(hkf he).2.2.2;unfold FM;rw[yBd he];have hk0:k≠0:=λh=>by rw[h,h1]at h2;cases h2
  simp[List.getD,yDe,hk0]
 clear hkf;have kb:=aV r.num k sec zB H.num.1 (by have:=H.num;omega) zB zB;have hnum:=H.num;have hls:=zA yA sec;have hlt:=zA xB r.tk;have hl1:([R,c,life].map iA).length=3:=rfl
 have hU:(r.tk.getD s.toNat default).used=true/\0<=s/\s<8:=by
  unfold fN at hu;rw[yBq,yBi]at hu;exact⟨hu.2,hu.1.1,zB⟩
 have hy:=yL xB r.tk s hU.2.1 zB;have hbR:∀t:Tk,t.sec.length<=1000000->CP (rgT r (FM r.tk k e t)):=λt ht=>⟨zW5 H.b.tk k e t ht,H.b.s,H.b.l,H.b.v⟩
 obtain⟨hU,hs0,hs8⟩:=hU;clear hu H hgv hk;generalize r.tk.getD s.toNat default=x at *;obtain⟨xu,x1,x2,x3,x4,x5⟩:=x;dsimp only at hU;subst hU;rw[show xB ⟨true,x1,x2,x3,x4,x5⟩= .agg [bA true,zD yA x1,iA x2,iA x3,iA x4,iA x5]from Z]at hy;obtain⟨d1,e1⟩:=hD (List.replicate 8 0) Z;by_cases he:e=0
 ·subst he
  rcases hs with hs|hs
  ·
   have hs:=yCb (show sec.length=0 by omega);subst hs;have R1:=AM r hn8 tkn R c life s now hs0 hs8 x1 x2 x3 x4 x5 hy k 0 18 (.inl ⟨rfl,rfl⟩) _ k1 m2 k4 e1 kb;refine .bad 18 xO ?_ R1;clear R1;generalize FM r.tk k 0 ⟨true,List.replicate 8 0,s,R,c,unF life now⟩=l1 at *;have c5:=zCa r s R c life now k l1 d1;unfold RN zGw at c5;clear hD hbR;rw[cC];refine eM call220 λF hF=>?_
   refine yS (zt5 c1 m1 c3 c4 c5) ?_;exact zJ
  ·obtain⟨d2,e2⟩:=hD sec hs;have R1:=AN r hn8 tkn R c life s now sec hs hs0 hs8 x1 x2 x3 x4 x5 hy k 0 _ k1 m2 k4 e2 kb;rw[yBd Z]at R1;refine⟨rgT r (FM r.tk k 0 ⟨true,sec,s,R,c,unF life now⟩),⟨16,[],[(k:Int)],r.num::(k:Int)::sec⟩,true,0,hbR _ (by show sec.length<=_;omega),⟨yBt _,by simp,by simp;omega⟩,⟨λh=>absurd Z h,λ_=> .inl ⟨_,by rw[FM,yBd Z,yC3];exact hn8,hT0 Z _,rfl,.inr ⟨rfl,zB,rfl,k,hk8,rfl⟩⟩⟩,?_,R1⟩;clear R1;generalize FM r.tk k 0 ⟨true,List.replicate 8 0,s,R,c,unF life now⟩=l1 at *;generalize FM r.tk k 0 ⟨true,sec,s,R,c,unF life now⟩=l2 at *;have c5:=zCb r hnum s R c life now sec hs k hk8 l1 l2 d1 d2;unfold RN at c5;clear hD hbR;rw[show yB ⟨16,[],[(k:Int)],r.num::(k:Int)::sec⟩= .agg [iA 16,.sl false [],.sl false [iA (k:Int)],zD yA (r.num::(k:Int)::sec)]from Z];generalize r.num::(k:Int)::sec=by1 at *;refine eM call220 λF hF=>?_
   refine yS (zt5 c1 m1 c3 c4 c5) ?_;exact zJ
 ·have hno:∀t,FM r.tk k e t=[]:=λt=>by unfold FM;rw[yBc he]
  have d1':=d1;rw[hno]at d1';have c5:=zB9 r s R c life now e he k sec d1';unfold RN zGw at c5
  have R1:yU [uZ r,yB ⟨2,tkn,[R,c,life],[]⟩,iA s,iA now,zD yA sec] [] (doR e) []:=by
   rcases hs with hs|hs
   ·have hs:=yCb (show sec.length=0 by omega);subst hs;exact AM r hn8 tkn R c life s now hs0 hs8 x1 x2 x3 x4 x5 hy k e e (.inr ⟨he,rfl⟩) _ k1 m2 k4 e1 kb
   ·obtain⟨d2,e2⟩:=hD sec hs;have R1:=AN r hn8 tkn R c life s now sec hs hs0 hs8 x1 x2 x3 x4 x5 hy k e _ k1 m2 k4 e2 kb;rw[yBc he]at R1;exact R1
  refine .bad e he ?_ R1;clear R1 hD hbR hno e1 d1 d1';rw[cC]
  rcases hs with hs|hs
  all_goals
   refine eM call220 λF hF=>?_
   refine yS (zt5 c1 m1 c3 c4 c5) ?_;exact zJ
def zN4 (r:Rg) (m:Ms) (s now:Int) (sec:List Int) (c1:zO 235 [uZ r] [] (bA true) []) (c2:zO 195 [yB m] [] (bA true) []) (c3:zO 236 [zD xB r.tk,iA s] [] (bA true) []) (c4:zO 173 [uZ r] [] (uZ r) []) (hs:(sec.length:Int)=0∨(sec.length:Int)=8)
  (h2:¬m.kind=2) (h3:¬m.kind=3) (h4:¬m.kind=4) (h5:¬m.kind=5):zO 220 [uZ r,yB m,iA s,iA now,zD yA sec] [] (doR 1) []:=by
 rw[cC];have hls:=zA yA sec
 rcases hs with hs|hs
 all_goals
  refine eM call220 λF hF=>?_
  refine yS (bY c1 c2 c3 c4) ?_;exact zJ
def zGx {l:List Int} (h:l.length=1):∃a,l=[a]:=by
 match l,h with
 | [a],_=>exact⟨a,rfl⟩
def yBa {l:List Int} (h:l.length=2):∃a b,l=[a,b]:=by
 match l,h with
 | [a,b],_=>exact⟨a,b,rfl⟩
def yBb {l:List Int} (h:l.length=3):∃a b c,l=[a,b,c]:=by
 match l,h with
 | [a,b,c],_=>exact⟨a,b,c,rfl⟩
theorem zSb (r:Rg) (hv:r.vh.length<=1000) (m:Ms) (hm:MsB m) (s now:Int) (sec:List Int) (hs:sec.length<=1000):XS r m s now sec:=by
 have c1:=ZE r zB;have k1:=cP r zB;obtain⟨b,c2,hb⟩:=zNb m hm;have c3:=UH r.tk s
 cases hg:gvF r with
 |false=>
  rw[hg]at c1 k1;exact .bad 1 xO (XR r m s now sec false b _ c1 c2 c3 (.inl Z) hs) (zM6 r m s now sec k1)
 |true=>
 have H:=zM5 hg;rw[hg]at c1 k1;by_cases hk:m.kind=2∨m.kind=3∨m.kind=4∨m.kind=5
 case neg=>
  have h2:¬m.kind=2:=λh=>hk (.inl h)
  have h3:¬m.kind=3:=λh=>hk (.inr (.inl h))
  have h4:¬m.kind=4:=λh=>hk (.inr (.inr (.inl h)))
  have h5:¬m.kind=5:=λh=>hk (.inr (.inr (.inr h)))
  refine .bad 1 xO ?_ (zM7 r m s now sec k1 h2 h3 h4 h5)
  cases b with
  |false=>exact XR r m s now sec true false _ c1 c2 c3 (.inr (.inl Z)) hs
  |true=>
  cases hu:fN r.tk s with
  |false=>exact XR r m s now sec true true _ c1 c2 c3 (.inr (.inr (.inl hu))) hs
  |true=>
  rw[hu]at c3;by_cases hsl:(sec.length:Int)=0∨(sec.length:Int)=8
  ·exact zN4 r m s now sec c1 c2 c3 (eV r H.b) hsl h2 h3 h4 h5
  ·exact XR r m s now sec true true true c1 c2 c3 (.inr (.inr (.inr ⟨λh=>hsl (.inl h),λh=>hsl (.inr h)⟩))) hs
 obtain⟨f,hf⟩:∃f,kdP m.kind f:=by
  unfold kdP
  rcases hk with h|h|h|h
  ·exact⟨3,.inl ⟨h,rfl⟩⟩
  ·exact⟨1,.inr (.inl ⟨h,rfl⟩)⟩
  ·exact⟨2,.inr (.inr (.inl ⟨h,rfl⟩))⟩
  ·exact⟨1,.inr (.inr (.inr ⟨h,rfl⟩))⟩
 obtain⟨b',k2,hb'⟩:=zGi m hm f hf
 have hbb:b'=b:=by
  have h1:=hb f hf
  cases b<;>cases b'<;>simp_all
 subst hbb;have h1:=hb f hf
 cases b' with
 |false=>exact .bad 1 xO (XR r m s now sec true false _ c1 c2 c3 (.inr (.inl Z)) hs) (OY r m s now sec H.n8 false k1 k2 hk (.inl Z) hs)
 |true=>
 cases hu:fN r.tk s with
 |false=>exact .bad 1 xO (XR r m s now sec true true _ c1 c2 c3 (.inr (.inr (.inl hu))) hs) (OY r m s now sec H.n8 true k1 k2 hk (.inr (.inl hu)) hs)
 |true=>
 by_cases hsl:(sec.length:Int)=0∨(sec.length:Int)=8
 case neg=>
  have hq:¬(sec.length:Int)=0/\¬(sec.length:Int)=8:=⟨λh=>hsl (.inl h),λh=>hsl (.inr h)⟩;exact .bad 1 xO (XR r m s now sec true true _ c1 c2 c3 (.inr (.inr (.inr hq))) hs) (OY r m s now sec H.n8 true k1 k2 hk (.inr (.inr hq)) hs)
 obtain⟨_,hd,hal,_⟩:=h1.1 Z;obtain⟨mk,tkn,ar,da⟩:=m;dsimp only at hd hal hf;subst hd
 rcases hf with⟨rfl,rfl⟩|⟨rfl,rfl⟩|⟨rfl,rfl⟩|⟨rfl,rfl⟩
 ·obtain⟨x,y,z,rfl⟩:=yBb hal;exact do2 r hg tkn x y z s now sec hu hsl c2 k2
 ·obtain⟨x,rfl⟩:=zGx hal;exact do3 r hg tkn x s now sec hu hsl c2 k2
 ·obtain⟨x,y,rfl⟩:=yBa hal;exact do4 r hg tkn x y s now sec hu hsl c2 k2
 ·obtain⟨x,rfl⟩:=zGx hal;exact do5 r hg tkn x s now sec hu hsl c2 k2
def dgD (d:xH) (m:Ms) (r':Rg) (u:Bool) (e:Int):xH:=if e=0 then⟨r',(if m.kind=5 then DZ d.rq (m.args.getD 0 0)else d.rq),(if u=true then d.dr.drop 1 else d.dr),d.au⟩else d
def MY (d:xH):List Int:=d.dr.headD []
def zXq (d:xH) (m:Ms) (slot now:Int) (hv:bZ d.rq) (hn:d.dr.length<=1000) (r':Rg) (p:Ms) (u:Bool) (e:Int)
  (f1:zO 220 [uZ d.rg,yB m,iA slot,iA now,zD yA (MY d)] [] (.tup [uZ r',yB p,bA u,iA e]) []) (h5:m.kind=5->∃a,m.args=[a]):
  zO 201 [zI d,yB m,iA slot,iA now] [] (.tup [zI (dgD d m r' u e),yB (if e=0 then p else QP),iA e]) []:=by
 unfold dgD;obtain⟨rg,rq,dr,au⟩:=d;obtain⟨k,tk0,ar,da⟩:=m;unfold MY at f1;dsimp only at *;have hlr:(dr.map kI).length=dr.length:=zA kI dr
 cases dr with
 | nil=>
  rw[List.headD_nil]at f1;by_cases he:e=0
  ·subst he;rw[yBd Z,yBd Z];by_cases hk:k=5
   ·subst hk;obtain⟨a,rfl⟩:=h5 Z;have hw:=LW rq a hv;rw[yBd Z,show([a]:List Int).getD 0 0=a from Z];generalize DZ rq a=ql at *;unfold uZ yB at f1;unfold zI wF yB;cases u
    ·(refine eM call201 λF hF=>?_)
     refine yS (vH f1 hw) ?_;exact zJ
    ·(refine eM call201 λF hF=>?_)
     refine yS (vH f1 hw) ?_;exact zJ
   ·rw[yBc hk];clear h5;unfold uZ yB at f1;unfold zI wF yB;cases u
    ·(refine eM call201 λF hF=>?_)
     refine zW f1 ?_;exact zJ
    ·(refine eM call201 λF hF=>?_)
     refine zW f1 ?_;exact zJ
  ·rw[yBc he,yBc he];clear h5;unfold uZ yB at f1;unfold zI wF yB QP;refine eM call201 λF hF=>?_
   refine zW f1 ?_;exact zJ
 | cons b bs=>
  rw[List.headD_cons]at f1;have hlr:(kI b::bs.map kI).length=bs.length+1:=by rw[yBp,yBe]
  rw[yBp]at hn;have hbb:zD kI (b::bs)= .sl false (kI b::bs.map kI):=rfl;by_cases he:e=0
  ·subst he;rw[yBd Z,yBd Z];by_cases hk:k=5
   ·subst hk;obtain⟨a,rfl⟩:=h5 Z;have hw:=LW rq a hv;rw[yBd Z,show([a]:List Int).getD 0 0=a from Z];generalize DZ rq a=ql at *;unfold uZ yB at f1;unfold zI wF yB;rw[hbb];cases u
    ·(refine eM call201 λF hF=>?_)
     refine yS (vH f1 hw) ?_;exact zJ
    ·(refine eM call201 λF hF=>?_)
     refine yS (vH f1 hw) ?_;exact zJ
   ·rw[yBc hk];clear h5;unfold uZ yB at f1;unfold zI wF yB;rw[hbb];cases u
    ·(refine eM call201 λF hF=>?_)
     refine zW f1 ?_;exact zJ
    ·(refine eM call201 λF hF=>?_)
     refine zW f1 ?_;exact zJ
  ·rw[yBc he,yBc he];clear h5;unfold uZ yB at f1;unfold zI wF yB QP;rw[hbb];refine eM call201 λF hF=>?_
   refine zW f1 ?_;exact zJ
def zSc (d:xH) (m:Ms) (slot now:Int) (hv:bZ d.rq) (hn:d.dr.length<=1000) (r':Rg) (p:Ms) (u:Bool) (e:Int)
 (f1:yU [uZ d.rg,yB m,iA slot,iA now,zD yA (MY d)] [] (.tup [uZ r',yB p,bA u,iA e]) []) (h5:m.kind=5->∃a,m.args=[a]) (hu:u=true->d.dr≠[]):
 yU [zI d,yB m,iA slot,iA now] [] (.tup [zI (dgD d m r' u e),yB p,iA e]) []:=yF
structure It where
 code:Int
 kind:Int
 pay:List Int
def vC (i:It):AV:= .agg [iA i.code,iA i.kind,zD yA i.pay]
def hT (d:xH) (p:Ms) (k e:Int):AV:= .tup [zI d,yB p,iA k,iA e]
def zSd (c:Cf) (d:xH) (s now:Int) (i:It) (hc:i.code≠0):zO 170 [wN c,zI d,iA s,vC i,iA now] [] (hT d QP (-1) i.code) []:=by
 unfold wN hT zI wF vC yB QP;refine eM call170 λF hF=>?_
 refine WW ?_;exact zJ
def zSf (c:Cf) (d:xH) (s now:Int) (i:It) (hc:i.code=0) (hk:¬(1<=i.kind/\i.kind<=12)):zO 170 [wN c,zI d,iA s,vC i,iA now] [] (hT d QP (-1) 5) []:=by
 have k1:=fT i.kind;rw[yBm hk]at k1;obtain⟨co,ki,pa⟩:=i;dsimp only at *;subst hc;unfold wN hT zI wF vC yB QP;refine eM call170 λF hF=>?_
 refine zW k1 ?_;exact zJ
def zSg (c:Cf) (d:xH) (s now k:Int) (pa:List Int) (h0:1<=k) (h1:k<=12) (k2:zO 69 [iA k,zD yA pa] [] (deT k (pa.take 10) none) []):zO 170 [wN c,zI d,iA s,vC ⟨0,k,pa⟩,iA now] [] (hT d QP (-1) 6) []:=by
 have k1:=fT k;rw[yBk ⟨h0,h1⟩]at k1;unfold deT yB at k2;unfold wN hT zI wF vC yB QP;refine eM call170 λF hF=>?_
 refine yS (vH k1 k2) ?_;exact zJ
def zSh (c:Cf) (d:xH) (s now k:Int) (pa tk0 ar:List Int) (h0:1<=k) (h1:k<=12) (k2:zO 69 [iA k,zD yA pa] [] (.tup [yB ⟨k,tk0,ar,[]⟩,iA 0]) []) (r:Rg) (sl e:Int) (he:e≠0)
  (k3:zO 200 [uZ d.rg,yB ⟨k,tk0,ar,[]⟩,iA now] [] (.tup [uZ r,iA sl,iA e]) []):zO 170 [wN c,zI d,iA s,vC ⟨0,k,pa⟩,iA now] [] (hT d QP (-1) e) []:=by
 have k1:=fT k;rw[yBk ⟨h0,h1⟩]at k1;unfold yB at k2 k3;unfold uZ at k3;unfold wN hT zI wF vC yB QP;refine eM call170 λF hF=>?_
 refine yS (gW k1 k2 k3) ?_;exact zJ
def wC (d:xH) (r:Rg):xH:=⟨r,d.rq,d.dr,d.au⟩
section
variable (c:Cf) (d:xH) (s now k:Int) (pa tk0 ar:List Int) (h0:1<=k) (h1:k<=12) (k2:zO 69 [iA k,zD yA pa] [] (.tup [yB ⟨k,tk0,ar,[]⟩,iA 0]) []) (r:Rg) (sl:Int)
 (k3:zO 200 [uZ d.rg,yB ⟨k,tk0,ar,[]⟩,iA now] [] (.tup [uZ r,iA sl,iA 0]) [])
include h0 h1 k2 k3
def zXr (hk:k=2∨k=3∨k=4∨k=5) (d':xH) (p:Ms) (e:Int) (k4:zO 201 [zI (wC d r),yB ⟨k,tk0,ar,[]⟩,iA sl,iA now] [] (.tup [zI d',yB p,iA e]) []):
  zO 170 [wN c,zI d,iA s,vC ⟨0,k,pa⟩,iA now] [] (hT d' p (-1) e) []:=by
 have k1:=fT k;rw[yBk ⟨h0,h1⟩]at k1;unfold yB at k2 k3 k4;unfold uZ at k3;unfold wC zI wF at k4;unfold wN hT zI wF vC yB
 rcases hk with rfl|rfl|rfl|rfl
 all_goals
  refine eM call170 λF hF=>?_
  refine yS (bY k1 k2 k3 k4) ?_;exact zJ
def GU (hk:k=6∨k=7∨k=8) (l:List Rq) (e:Int) (he:e≠0) (k4:zO 202 [wN c,zI (wC d r),yB ⟨k,tk0,ar,[]⟩,iA sl,iA now] [] (.tup [zD yI l,iA e]) []):
  zO 170 [wN c,zI d,iA s,vC ⟨0,k,pa⟩,iA now] [] (hT (wC d r) QP (-1) e) []:=by
 have k1:=fT k;rw[yBk ⟨h0,h1⟩]at k1;unfold yB at k2 k3 k4;unfold uZ at k3;unfold wC wN zI wF at k4;unfold wC wN hT zI wF vC yB QP
 rcases hk with rfl|rfl|rfl
 all_goals
  refine eM call170 λF hF=>?_
  refine yS (bY k1 k2 k3 k4) ?_;exact zJ
def GV (hk:k=6∨k=7∨k=8) (a:Int) (as1:List Int) (har:ar=a::as1) (l:List Rq) (k4:zO 202 [wN c,zI (wC d r),yB ⟨k,tk0,ar,[]⟩,iA sl,iA now] [] (.tup [zD yI l,iA 0]) []):
  zO 170 [wN c,zI d,iA s,vC ⟨0,k,pa⟩,iA now] [] (hT (dkQ (wC d r) l) (gE k a) (-1) 0) []:=by
 subst har;have k1:=fT k;have k5:=GM k a;rw[yBk ⟨h0,h1⟩]at k1;unfold gE yB at k5;rw[show yB ⟨k,tk0,a::as1,[]⟩= .agg [iA k,zD yA tk0,.sl false (iA a::as1.map iA),.sl false []]from Z]at k2 k3 k4;generalize as1.map iA=A at *;unfold uZ at k3;unfold wC wN zI wF at k4;unfold dkQ wC wN hT zI wF vC gE yB
 rcases hk with rfl|rfl|rfl
 all_goals
  refine eM call170 λF hF=>?_
  refine yS (zt5 k1 k2 k3 k4 k5) ?_;exact zJ
def GW (hk:k=1∨k=9∨k=12) (p:Ms) (k4:zO 204 [zI (wC d r),iA k,iA now] [] (yB p) []):
  zO 170 [wN c,zI d,iA s,vC ⟨0,k,pa⟩,iA now] [] (hT (wC d r) p (-1) 0) []:=by
 have k1:=fT k;rw[yBk ⟨h0,h1⟩]at k1;unfold yB at k2 k3 k4;unfold uZ at k3;unfold wC zI wF at k4;unfold wC wN hT zI wF vC yB
 rcases hk with rfl|rfl|rfl
 all_goals
  refine eM call170 λF hF=>?_
  refine yS (bY k1 k2 k3 k4) ?_;exact zJ
def zSi (hk:k=11) (a:Int) (har:ar=[a]) (ha:(c.js.length:Int)<=a):
  zO 170 [wN c,zI d,iA s,vC ⟨0,k,pa⟩,iA now] [] (hT (wC d r) QP (-1) 8) []:=by
 subst hk har;have k1:=fT 11;have hlj:=zA wE c.js;rw[show yB ⟨11,tk0,[a],[]⟩= .agg [iA 11,zD yA tk0,.sl false [iA a],.sl false []]from Z]at k2 k3;unfold uZ at k3;unfold wC wN hT zI wF vC QP yB;refine eM call170 λF hF=>?_
 refine yS (gW k1 k2 k3) ?_;exact zJ
def zSj (hk:k=11) (a:Int) (har:ar=[a]) (ha:a<(c.js.length:Int)):
  zO 170 [wN c,zI d,iA s,vC ⟨0,k,pa⟩,iA now] [] (hT (wC d r) (gE 11 a) a 0) []:=by
 subst hk har;have k1:=fT 11;have k5:=GM 11 a;have hlj:=zA wE c.js;unfold gE yB at k5;rw[show yB ⟨11,tk0,[a],[]⟩= .agg [iA 11,zD yA tk0,.sl false [iA a],.sl false []]from Z]at k2 k3;unfold uZ at k3;unfold wC wN hT zI wF vC gE yB;refine eM call170 λF hF=>?_
 refine yS (bY k1 k2 k3 k5) ?_;exact zJ
def zSk (hk:k=10) (a:Int) (har:ar=[a]) (ha:1<a):
  zO 170 [wN c,zI d,iA s,vC ⟨0,k,pa⟩,iA now] [] (hT (wC d r) QP (-1) 8) []:=by
 subst hk har;have k1:=fT 10;rw[show yB ⟨10,tk0,[a],[]⟩= .agg [iA 10,zD yA tk0,.sl false [iA a],.sl false []]from Z]at k2 k3;unfold uZ at k3;unfold wC wN hT zI wF vC QP yB;refine eM call170 λF hF=>?_
 refine yS (gW k1 k2 k3) ?_;exact zJ
def zSl (hk:k=10) (a:Int) (har:ar=[a]) (ha:a<=1) (hs:¬(0<=s/\s<(d.au.length:Int))):
  zO 170 [wN c,zI d,iA s,vC ⟨0,k,pa⟩,iA now] [] (hT (wC d r) (gE 10 a) (-1) 0) []:=by
 subst hk har;have k1:=fT 10;have k5:=GM 10 a;have hla:=zA bA d.au;unfold gE yB at k5;rw[show yB ⟨10,tk0,[a],[]⟩= .agg [iA 10,zD yA tk0,.sl false [iA a],.sl false []]from Z]at k2 k3;unfold uZ at k3;unfold wC wN hT zI wF vC gE yB;by_cases h2:0<=s
 ·have h3:(d.au.length:Int)<=s:=by omega
  refine eM call170 λF hF=>?_
  refine yS (bY k1 k2 k3 k5) ?_;exact zJ
 ·(refine eM call170 λF hF=>?_)
  refine yS (bY k1 k2 k3 k5) ?_;exact zJ
end
section
variable (c:Cf) (d:xH) (s now:Int) (tk0:List Int) (sl:Int)
def zN5:yU [wN c,zI d,iA s,yB ⟨1,tk0,[],[]⟩,iA sl,iA now] [] (hT d (ND d now) (-1) 0) []:=yF
def zXs (k:Int) (ar:List Int) (a:Int) (ar1:List Int) (har:ar=a::ar1) (hk:k=2∨k=3∨k=4∨k=5) (d':xH) (p:Ms) (e:Int) (k4:yU [zI d,yB ⟨k,tk0,ar,[]⟩,iA sl,iA now] [] (.tup [zI d',yB p,iA e]) []):
 yU [wN c,zI d,iA s,yB ⟨k,tk0,ar,[]⟩,iA sl,iA now] [] (hT d' p (-1) e) []:=yF
def zN6 (ar:List Int) (a:Int) (ar1:List Int) (har:ar=a::ar1) (h0:0<=sl) (h1:sl<(d.rg.tk.length:Int)) (d':xH) (e:Int) (k4:yU [wN c,zI d,yB ⟨6,tk0,ar,[]⟩,iA (d.rg.tk.getD sl.toNat default).cls,iA now] [] (.tup [zI d',iA e]) []):
 yU [wN c,zI d,iA s,yB ⟨6,tk0,ar,[]⟩,iA sl,iA now] [] (hT d' (gE 6 a) (-1) e) []:=yF
def zN7 (ar:List Int) (a:Int) (ar1:List Int) (har:ar=a::ar1) (d':xH) (e:Int) (k4:yU [zI d,yB ⟨7,tk0,ar,[]⟩,iA now] [] (.tup [zI d',iA e]) []):
 yU [wN c,zI d,iA s,yB ⟨7,tk0,ar,[]⟩,iA sl,iA now] [] (hT d' (gE 7 a) (-1) e) []:=yF
def zXt (a:Int) (l:List Rq) (e:Int) (k4:yU [zD yI d.rq,iA a] [] (.tup [zD yI l,iA e]) []):
 yU [wN c,zI d,iA s,yB ⟨8,tk0,[a],[]⟩,iA sl,iA now] [] (hT (dkQ d (if e=0 then l else d.rq)) (gE 8 a) (-1) e) []:=yF
def zSm (k4:yU [zI d] [] (yB (bO d)) []):yU [wN c,zI d,iA s,yB ⟨12,tk0,[],[]⟩,iA sl,iA now] [] (hT d (bO d) (-1) 0) []:=yF
def zSn (a:Int) (ha:(c.js.length:Int)<=a):yU [wN c,zI d,iA s,yB ⟨11,tk0,[a],[]⟩,iA sl,iA now] [] (hT d (gE 11 a) (-1) 8) []:=yF
def zSo (a:Int) (ha:a<(c.js.length:Int)):yU [wN c,zI d,iA s,yB ⟨11,tk0,[a],[]⟩,iA sl,iA now] [] (hT d (gE 11 a) a 0) []:=yF
def zSp (a:Int) (ha:1<a):yU [wN c,zI d,iA s,yB ⟨10,tk0,[a],[]⟩,iA sl,iA now] [] (hT d (gE 10 a) (-1) 8) []:=yF
def zSq (a:Int) (ha:a<=1) (hs:¬(0<=s/\s<(d.au.length:Int))):yU [wN c,zI d,iA s,yB ⟨10,tk0,[a],[]⟩,iA sl,iA now] [] (hT d (gE 10 a) (-1) 0) []:=yF
def zSr (hb:fY d):yU [wN c,zI d,iA s,yB ⟨9,tk0,[],[]⟩,iA sl,iA now] [] (hT d (NE d) (-1) 0) []:=yF
end
def SA (d:xH):AV:=wF d.rg (zD yI d.rq) (zD kI d.dr) (.ref 1004 0 (d.au.map bA).length)
def auE (l:List Bool):xM:= .arr 1 (l.map bA) false
def hTO (d:xH) (p:Ms) (k e:Int):AV:= .tup [SA d,yB p,iA k,iA e]
def zN8 (l:List Bool) (h1:1<=l.length) (hl:l.length<=1073741824):zO 169 [zD bA l] [] (.ref 1004 0 (l.map bA).length) [(1004,auE l)]:=by
 have hll:=zA bA l;unfold auE;refine eM call169 λF hF=>?_
 refine yY 0 Z (λcap hx=>?_) ?_
 ·have:l=[]:=by simpa using hx
  subst this;simp at h1
 ·repeat' (first|(refine zE ?_;first|refine vV tok Z Z ?_|(refine wO ?_;refine wK (xK tok (.inl ⟨rfl,rfl⟩) Z Z Z Z) Z ?_)|(refine yR ?_;refine qA (nw:=[1004]) (yJ tok 1004 (xs:=[]) Z Z Z Z Z Z Z Z Z) Z Z Z ?_)|(refine yM ?_;refine wJ tok Z Z Z Z Z Z Z (yV _ _ (λ_=>rfl)) Z Z Z zB Z ?_)|refine qR ?_)|(first|refine xT ?_|refine xI ?_|refine vJ Z ?_|refine zZ Z ?_|refine zV Z ?_|refine xQ Z (λhc=>?_) λhc=>?_|refine xD ?_|refine yZ ?_|refine xJ ?_|refine yX ?_))
  exact zK [1004] Z Z Z Z
def NI (d:xH) (hb:fY d) (h1:1<=d.au.length):zO 127 [zI d] [] (SA d) [(1004,auE d.au)]:=by
 have k1:=GL d.rg hb.rg;have hq:=hb.q;have hdn:=hb.n;have hau:=hb.a;have k2:=XT d.rq zB;have k3:=NC d.dr zB;have k4:=zN8 d.au h1 zB;have hlq:=zA yI d.rq;have hld:=zA kI d.dr;unfold SA zI wF;unfold auE at *;unfold uZ at k1;refine eM call127 λF hF=>?_
 refine yS (vH k1 k2) ?_;refine zN ((d.rq.map yI).length) [1001,1,2] [1,2] [1,2,15] [16,1,2,15] Z (λi T U=>⟨(16,iA i)::T,(1001,.arr 5 (kV i (d.rq.map yI)) false)::U⟩) ?_;(conv=>whnf);refine⟨by rfl,?_,?_⟩
 ·intro i hi;have hi':i<d.rq.length:=by omega
  have hy:(kV i (d.rq.map yI))[i]? =some (yI (d.rq.getD i default)):=zM yI d.rq i hi';have e:=qZ yI d.rq i hi';have c2:=cI (d.rq.getD i default).legs (hb.g (d.rq.getD i default) bS);generalize (d.rq.getD i default)=t at *;generalize kV i (d.rq.map yI)=xs at *;generalize kV (i+1) (d.rq.map yI)=ys at *;subst e;refine zW c2 ?_;rfl
 ·(refine zW k3 ?_)
  refine zN ((d.dr.map kI).length) [1002,1,2,1001] [1,2,1001] [1,2,38] [39,1,2,38] Z (λi T U=>⟨(39,iA i)::T,(1002,.arr 1 (kV i (d.dr.map kI)) false)::U⟩) ?_;(conv=>whnf);refine⟨by rfl,?_,?_⟩
  ·intro i hi;have hi':i<d.dr.length:=by omega
   have hy:(kV i (d.dr.map kI))[i]? =some (kI (d.dr.getD i default)):=zM kI d.dr i hi';have e:=qZ kI d.dr i hi';have c2:=wX (d.dr.getD i default) (by have:=hb.e (d.dr.getD i default) bS;omega);generalize (d.dr.getD i default)=t at *;generalize kV i (d.dr.map kI)=xs at *;generalize kV (i+1) (d.dr.map kI)=ys at *;subst e;refine zW c2 ?_;rfl
  ·(refine zW k4 ?_)
   refine zH [1004] Z Z ?_ Z
   show wF d.rg (.sl false ((d.rq.map yI).take (d.rq.map yI).length)) (.sl false ((d.dr.map kI).take (d.dr.map kI).length)) (.ref 1004 0 (d.au.map bA).length)=_
   rw[yBj,yBj];rfl
def zCc (d:xH) (hb:fY d):yU [zI d] [] (SA d) [(1004,auE d.au)]:=yF
def zSs (c:Cf) (d:xH) (s now:Int) (pa tk0:List Int) (a:Int) (h0:0<=a) (h1:a<=1) (k2:zO 69 [iA 10,zD yA pa] [] (.tup [yB ⟨10,tk0,[a],[]⟩,iA 0]) []) (r:Rg) (sl:Int)
  (k3:zO 200 [uZ d.rg,yB ⟨10,tk0,[a],[]⟩,iA now] [] (.tup [uZ r,iA sl,iA 0]) []) (hs:0<=s/\s<(d.au.length:Int)):
  zO 170 [wN c,SA d,iA s,vC ⟨0,10,pa⟩,iA now] [(1004,auE d.au)] (hTO ⟨r,d.rq,d.dr,d.au.set s.toNat (a==1)⟩ (gE 10 a) (-1) 0) [(1004,auE (d.au.set s.toNat (a==1)))]:=by
 have k1:=fT 10;have k5:=GM 10 a;have hla:=zA bA d.au;have hya:=zM bA d.au s.toNat zB;unfold gE yB at k5;rw[show yB ⟨10,tk0,[a],[]⟩= .agg [iA 10,zD yA tk0,.sl false [iA a],.sl false []]from Z]at k2 k3;unfold uZ at k3;have hls:(d.au.set s.toNat (a==1)).map bA=(d.au.map bA).set s.toNat (bA (a==1)):=yDa;unfold wN hTO SA wF vC gE yB auE;dsimp only;rw[hls,yC3];generalize d.au.getD s.toNat default=b0 at *;generalize d.au.map bA=xs at*
 obtain rfl|rfl:a=0∨a=1:=by omega
 all_goals
  refine eM call170 λF hF=>?_
  refine WLc (bY k1 k2 k3 k5) ?_;exact zH [1004] Z Z Z Z
def zSt (c:Cf) (d:xH) (s now:Int) (tk0:List Int) (sl:Int) (a:Int) (h0:0<=a) (h1:a<=1) (hs:0<=s/\s<(d.au.length:Int)):
 yU [wN c,SA d,iA s,yB ⟨10,tk0,[a],[]⟩,iA sl,iA now] [(1004,auE d.au)] (hTO ⟨d.rg,d.rq,d.dr,d.au.set s.toNat (a==1)⟩ (gE 10 a) (-1) 0) [(1004,auE (d.au.set s.toNat (a==1)))]:=yF
def jK (k e:Int):Ms:=⟨15,[],[k,e],[]⟩
def MZ (a k e:Int):AV:= .agg [iA a,iA k,iA e]
structure Hd where
 d:xH
 p:Ms
 k:Int
 e:Int
def AO (n ki:Int) (h:Hd):AV:= .tup [zI h.d,yB h.p,MZ n ki h.e,iA h.k]
def NJ (d:xH):AV:=wF d.rg (zD yI d.rq) (.ref 1005 0 (d.dr.map kI).length) (zD bA d.au)
def dkD (d:xH):xM:= .arr 1 (d.dr.map kI) true
def AP (n ki:Int) (h:Hd):AV:= .tup [NJ h.d,yB h.p,MZ n ki h.e,iA h.k]
def gS (d:xH) (hb:fY d):yU [zI d] [] (NJ d) [(1005,dkD d)]:=yF
def HRc (c:Cf) (d:xH) (s now:Int) (i:It) (h:Hd):Prop:=
 yU [wN c,zI d,iA s,vC i,iA now] [] (AO d.rg.num i.kind h) []/\yU [wN c,zI d,iA s,vC i,iA now] [] (AP d.rg.num i.kind h) [(1005,dkD h.d)]
def hdM (ki:Int) (d:xH) (p:Ms) (k e:Int):Hd:=if e=0 then⟨d,p,k,0⟩else⟨d,jK ki e,-1,e⟩
def zTw (c:Cf) (d:xH) (s now:Int) (i:It) (hb:fY d) (d':xH) (p:Ms) (k e:Int) (k4:zO 170 [wN c,zI d,iA s,vC i,iA now] [] (hT d' p k e) []):
  zO 128 [wN c,zI d,iA s,vC i,iA now] [] (AO d'.rg.num i.kind (hdM i.kind d' p k e)) []:=by
 have k1:=cQ d hb;unfold hT wN vC at k4;unfold wN vC;unfold zI wF yB at *;by_cases he:e=0
 ·subst he;unfold hdM AO MZ zI wF yB;rw[yBd Z];refine eM call128 λF hF=>?_
  refine WLc (vH k1 k4) ?_;exact zJ
 ·unfold hdM AO MZ jK zI wF yB;rw[yBc he];refine eM call128 λF hF=>?_
  refine WLc (vH k1 k4) ?_;exact zJ
def zXu (c:Cf) (d:xH) (s now:Int) (i:It) (hb:fY d) (h1:1<=d.au.length) (d':xH) (p:Ms) (k:Int) (k4:zO 170 [wN c,SA d,iA s,vC i,iA now] [(1004,auE d.au)] (hTO d' p k 0) [(1004,auE d'.au)]):
  zO 128 [wN c,zI d,iA s,vC i,iA now] [] (AO d'.rg.num i.kind ⟨d',p,k,0⟩) []:=by
 have k1:=NI d hb h1;unfold hTO wN vC at k4;unfold wN vC;unfold auE SA at *;unfold zI wF yB at *;unfold AO MZ zI wF yB;refine eM call128 λF hF=>?_
 refine WLc (vH k1 k4) ?_;refine zH [] Z Z ?_ Z
 show AV.tup [wF d'.rg (zD yI d'.rq) (zD kI d'.dr) (.sl false ((d'.au.map bA).take (d'.au.map bA).length)),yB p,MZ d'.rg.num i.kind 0,iA k]=_
 rw[yBj];rfl
section
variable (c:Cf) (d:xH) (s now:Int) (hb:fY d)
include hb
def zSu (i:It) (hc:i.code≠0):HRc c d s now i ⟨d,jK i.kind i.code,-1,i.code⟩:=by
 have kd:=gS d hb;have k1:=jJ d hb;unfold HRc wN AO AP jK MZ vC zI NJ dkD wF yB at *;refine⟨?_,?_⟩
 ·exact yF
 ·exact yF
def zSv (i:It) (hc:i.code=0) (hk:¬(1<=i.kind/\i.kind<=12)):HRc c d s now i ⟨d,jK i.kind 5,-1,5⟩:=by
 have kd:=gS d hb;have k1:=jJ d hb;have k2:=bK i.kind;rw[yBm hk]at k2;obtain⟨co,ki,pa⟩:=i;dsimp only at *;subst hc;unfold HRc wN AO AP jK MZ vC zI NJ dkD wF yB at *;refine⟨?_,?_⟩
 ·exact yF
 ·exact yF
def zSw (k:Int) (pa:List Int) (h0:1<=k) (h1:k<=12) (k3:zO 71 [iA k,zD yA pa] [] (deT k (pa.take 10) none) []):HRc c d s now ⟨0,k,pa⟩ ⟨d,jK k 6,-1,6⟩:=by
 have kd:=gS d hb;have k1:=jJ d hb;have k2:=bK k;rw[yBk ⟨h0,h1⟩]at k2;unfold deT yB at k3;unfold HRc wN AO AP jK MZ vC zI NJ dkD wF yB at *;refine⟨?_,?_⟩
 ·exact yF
 ·exact yF
variable (k:Int) (pa tk0 ar:List Int) (h0:1<=k) (h1:k<=12) (k3:zO 71 [iA k,zD yA pa] [] (.tup [yB ⟨k,tk0,ar,[]⟩,iA 0]) [])
include h0 h1 k3
theorem zSx (r:Rg) (sl e:Int) (he:e≠0) (k4:yU [uZ d.rg,yB ⟨k,tk0,ar,[]⟩,iA now] [] (.tup [uZ r,iA sl,iA e]) []):
  HRc c d s now ⟨0,k,pa⟩ ⟨d,jK k e,-1,e⟩:=by
 have kd:=gS d hb;have k1:=jJ d hb;have k2:=bK k;rw[yBk ⟨h0,h1⟩]at k2;unfold uZ at k4;unfold HRc wN AO AP jK MZ vC zI NJ dkD wF yB at *;refine⟨?_,?_⟩
 ·exact yF
 ·exact yF
theorem zTx (r:Rg) (sl:Int) (k4:yU [uZ d.rg,yB ⟨k,tk0,ar,[]⟩,iA now] [] (.tup [uZ r,iA sl,iA 0]) []) (d':xH) (hb':fY d') (p:Ms) (kk e:Int)
  (k5:yU [wN c,zI (wC d r),iA s,yB ⟨k,tk0,ar,[]⟩,iA sl,iA now] [] (hT d' p kk e) []):
  HRc c d s now ⟨0,k,pa⟩ (hdM k d' p kk e):=by
 have kd:=gS d' hb';have k1:=jJ d hb;have k6:=jJ d' hb';have k2:=bK k;rw[yBk ⟨h0,h1⟩]at k2;unfold uZ at k4;unfold hT wC at k5;unfold HRc wN vC zI NJ dkD wF yB at *;by_cases he:e=0
 ·subst he;unfold hdM AO AP MZ zI NJ wF yB;rw[yBd Z];refine⟨?_,?_⟩
  ·exact yF
  ·exact yF
 ·unfold hdM AO AP MZ jK zI NJ wF yB;rw[yBc he];refine⟨?_,?_⟩
  ·exact yF
  ·exact yF
theorem zXv (r:Rg) (sl:Int) (k4:yU [uZ d.rg,yB ⟨k,tk0,ar,[]⟩,iA now] [] (.tup [uZ r,iA sl,iA 0]) []) (d':xH) (hb':fY d') (p:Ms) (kk:Int)
  (k5:yU [wN c,SA (wC d r),iA s,yB ⟨k,tk0,ar,[]⟩,iA sl,iA now] [(1004,auE d.au)] (hTO d' p kk 0) [(1004,auE d'.au)]):
  HRc c d s now ⟨0,k,pa⟩ ⟨d',p,kk,0⟩:=by
 have kd:=gS d' hb';have k1:=zCc d hb;have k6:=jJ d' hb';have k2:=bK k;rw[yBk ⟨h0,h1⟩]at k2;unfold uZ at k4;unfold hTO wC at k5;unfold auE SA at *;unfold HRc wN vC zI NJ dkD wF yB at *;unfold AO AP MZ zI NJ wF yB;refine⟨?_,?_⟩
 ·exact yF
 ·exact yF
end
def zSy (r:Rg) (m:Ms) (now:Int) (hr:CP r) (hm:BY m.tok) (hl:r.bk.level<=1000000):yU [uZ r,yB m,iA now] [] (.tup [uZ (opR r m now),iA (opS r m now),iA (opE r m now)]) []:=yF
def yAb (c:Cf) (l:List Rq):Prop:=∀r∈l,∀g∈r.legs,g.jn<(c.js.length:Int)/\g.ph<((c.js.getD g.jn.toNat default).ph.length:Int)
structure uW (c:Cf) (d:xH):Prop where
 b:CP d.rg
 v:bZ d.rq
 q:(d.rq.length:Int)<=d.rg.ag.req
 lg:yAb c d.rq
 a:AgV d.rg.ag
 n:0<=d.rg.num/\d.rg.num<4
 t8:d.rg.tk.length=8
 br:d.rg.bk.rate=d.rg.ag.rate
 bb:d.rg.bk.burst=d.rg.ag.burst
 bl:0<=d.rg.bk.level/\d.rg.bk.level<=d.rg.ag.burst
 au:(d.au.length:Int)=d.rg.ag.ses
 dn:d.dr.length<=1000
 dr:∀x∈d.dr,x.length=8/\BY x
 vh:d.rg.vh.length<=8
theorem uW.bd {c:Cf} {d:xH} (h:uW c d):fY d:=
 ⟨h.b,by have:=h.v.n4;omega,λr hr=>by have:=h.v.lg3 hr;omega,h.dn,λx hx=>by have:=(h.dr x hx).1;omega,by have:=h.au;have:=h.a.e;omega⟩
theorem zTy:∀(n:Nat) (l:List Int),l.length=4*n->∃qs:List Qd,l=YF qs/\qs.length=n
 |0,l,h=>⟨[],yCb zB,rfl⟩
 |n+1,a::b::c::e::l,h=>by
  obtain⟨qs,h1,h2⟩:=zTy n l (by simp only[yBp]at h;omega);exact⟨⟨a,b,c,e⟩::qs,by rw[h1];rfl,by rw[yBp,h2]⟩
 |n+1,[],h=>by simp at h
 |n+1,[_],h=>by simp at h;omega
 |n+1,[_,_],h=>by simp at h;omega
 |n+1,[_,_,_],h=>by simp at h;omega
theorem zTz:∀(n:Nat) (l:List Int),l.length=2*n->∃ws:List (Int×Int),l=GP ws/\ws.length=n
 |0,l,h=>⟨[],yCb zB,rfl⟩
 |n+1,a::b::l,h=>by
  obtain⟨ws,h1,h2⟩:=zTz n l (by simp only[yBp]at h;omega);exact⟨(a,b)::ws,by rw[h1];rfl,by rw[yBp,h2]⟩
 |n+1,[],h=>by simp at h
 |n+1,[_],h=>by simp at h;omega
def zSz {fx gr:Nat} {p a:List Int} (hb:BY p) (h:PP fx gr p=some a):p.length<=200/\10<=p.length/\(∀x∈a,0<=x/\x<=4294967295)/\(gr=0->a.length=fx)/\(gr≠0->∃c:Nat,1<=c/\c<=3/\a.length=fx+c*gr):=by
 unfold PP at h;by_cases hl:200<p.length∨p.length<10
 ·rw[yBd hl]at h;cases h
 rw[yBc hl]at h;have hbd:BY (p.drop 10):=λx hx=>hb x (yCt hx)
 cases h1:ZN fx (p.drop 10)with
 |none=>rw[h1]at h;cases h
 | some ar=>
  obtain⟨a1,r1⟩:=ar;rw[h1]at h;obtain⟨l1,b1,v1,_⟩:=dX fx _ a1 r1 hbd h1;dsimp only at h;by_cases hg:gr=0
  ·rw[yBd hg]at h;by_cases hr:r1=[]
   ·rw[yBd hr]at h;cases h;exact⟨zB,zB,v1,λ_=>l1,λh=>absurd hg h⟩
   ·rw[yBc hr]at h;cases h
  ·rw[yBc hg]at h
   cases h2:ZN 1 r1 with
   |none=>rw[h2]at h;cases h
   | some cr=>
    obtain⟨c1,r2⟩:=cr;rw[h2]at h;obtain⟨l2,b2,v2,_⟩:=dX 1 _ c1 r2 b1 h2;dsimp only at h;by_cases hc:c1.getD 0 0<1∨3<c1.getD 0 0
    ·rw[yBd hc]at h;cases h
    rw[yBc hc]at h
    cases h3:ZN ((c1.getD 0 0).toNat*gr) r2 with
    |none=>rw[h3]at h;cases h
    |some fr=>
     obtain⟨f1,r3⟩:=fr;rw[h3]at h;obtain⟨l3,b3,v3,_⟩:=dX _ _ f1 r3 b2 h3;dsimp only at h;by_cases hr:r3=[]
     ·rw[yBd hr]at h;cases h;refine⟨zB,zB,λx hx=>?_,λh=>absurd h hg,λ_=>⟨(c1.getD 0 0).toNat,zB,zB,by rw[yBf,l1,l3]⟩⟩;rw[yBy]at hx;exact hx.elim (v1 x) (v3 x)
     ·rw[yBc hr]at h;cases h
def Opn (d:xH) (i:It) (now:Int) (a:List Int):Prop:=i.code=0/\1<=i.kind/\i.kind<=12/\PP (vL i.kind) (xW i.kind) i.pay=some a/\opE d.rg ⟨i.kind,i.pay.take 10,a,[]⟩ now=0
def opD (d:xH) (i:It) (now:Int) (a:List Int):xH:=wC d (opR d.rg ⟨i.kind,i.pay.take 10,a,[]⟩ now)
def SD (c:Cf) (d:xH) (s:Int) (i:It) (now:Int) (h:Hd):Prop:=
 zO 128 [wN c,zI d,iA s,vC i,iA now] [] (AO d.rg.num i.kind h) []/\HRc c d s now i h
def RpF (d:xH) (i:It) (now:Int) (a:List Int) (h:Hd):Prop:=
 (i.kind=1/\h.p=ND d now/\h.d=d)∨(i.kind=9/\h.p=NE d/\h.d=d)∨(i.kind=12/\h.p=bO d/\h.d=d)∨
 (i.kind=2/\∃(k:Nat) (sec:List Int),k<8/\(sec.length=8/\BY sec)/\h.p=⟨16,[],[(k:Int)],d.rg.num::(k:Int)::sec⟩)∨
 ((3<=i.kind/\i.kind<=8∨i.kind=10∨i.kind=11)/\∃x,0<=x/\x<=4294967295/\h.p=gE i.kind x)
def T0 (d:xH):Prop:=d.rg.tk.getD 0 default=⟨true,d.rg.ag.sec,-1,d.rg.ag.rights,d.rg.ag.cls,0⟩
theorem T0.of {d d':xH} (h1:d'.rg.tk=d.rg.tk) (h2:d'.rg.ag=d.rg.ag) (h:T0 d):T0 d':=by
 unfold T0 at *;rw[h1,h2];exact h
def YR (l l':List Rq):Prop:=∀r∈l',∀g∈r.legs,g.sc= -1∨∃r0∈l,r0.id=r.id/\∃g0∈r0.legs,g0.jn=g.jn/\g0.ph=g.ph/\g0.sc=g.sc
theorem YR.refl (l:List Rq):YR l l:=λr hr g hg=> .inr ⟨r,hr,rfl,g,hg,rfl,rfl,rfl⟩
theorem YR.filter (l:List Rq) (p:Rq->Bool):YR l (l.filter p):=λr hr g hg=> .inr ⟨r,(yEd.1 hr).1,rfl,g,hg,rfl,rfl,rfl⟩
theorem YR.trans {a b c:List Rq} (h1:YR a b) (h2:YR b c):YR a c:=λr hr g hg=>by
 rcases h2 r hr g hg with h|⟨r1,hr1,e1,g1,hg1,a1,a2,a3⟩
 ·exact .inl h
 ·rcases h1 r1 hr1 g1 hg1 with h|⟨r0,hr0,e0,g0,hg0,b1,b2,b3⟩
  ·exact .inl (a3▸h)
  ·exact .inr ⟨r0,hr0,e0.trans e1,g0,hg0,b1.trans a1,b2.trans a2,b3.trans a3⟩
structure HdP (c:Cf) (d:xH) (s:Int) (i:It) (now:Int) (h:Hd):Prop where
 inv:uW c h.d
 ag:h.d.rg.ag=d.rg.ag
 num:h.d.rg.num=d.rg.num
 no:h.e≠0->h.k= -1/\h.p=jK i.kind h.e/\(h.d=d∨∃a,Opn d i now a/\h.d=opD d i now a)
 yes:h.e=0->∃a,Opn d i now a/\RpF d i now a h
 rst:h.k= -1∨(i.kind=11/\0<=h.k/\h.k<(c.js.length:Int))
 dl:h.d.dr.length<=d.dr.length
 t0:T0 d->T0 h.d
 eb:0<=i.code/\i.code<=100->0<=h.e/\h.e<=100
 ax:∀k:Nat,(k:Int)≠s->h.d.au[k]? =d.au[k]?
 sc:YR d.rq h.d.rq
def NK {r:Rg} {m:Ms} {now:Int} (h:opE r m now=0):opR r m now=⟨r.num,r.ag,r.tk,r.vh,if LV m.kind=true then CM r.bk else r.bk⟩/\ckB r.tk r.num m.tok m.kind now=true/\(LV m.kind=true->0<r.bk.level)/\opS r m now=m.tok.getD 1 default:=by
 have h1:ckB r.tk r.num m.tok m.kind now=true:=by
  cases hc:ckB r.tk r.num m.tok m.kind now with
  |true=>rfl
  |false=>rw[opE,hc,yBc yBw]at h;omega
 refine⟨?_,h1,λhk=>?_,by rw[opS,yBd h]⟩
 ·rw[opR,yBd h]
  split<;>rfl
 ·rw[opE,yBd h1]at h;by_cases hl:r.bk.level<=0
  ·rw[yBd ⟨hk,hl⟩]at h;omega
  ·omega
def zT0 {c:Cf} {d:xH} (hI:uW c d) {i:It} {now:Int} {a:List Int} (h:Opn d i now a):uW c (opD d i now a):=by
 obtain⟨h1,_,h3,_⟩:=NK h.2.2.2.2;unfold opD wC;rw[h1];have hl:=hI.bl;refine⟨⟨hI.b.tk,hI.b.s,hI.b.l,hI.b.v⟩,hI.v,hI.q,hI.lg,hI.a,hI.n,hI.t8,?_,?_,?_,hI.au,hI.dn,hI.dr,hI.vh⟩
 ·dsimp only;split
  ·unfold CM;split
   ·exact hI.br
   ·exact hI.br
  ·exact hI.br
 ·dsimp only;split
  ·unfold CM;split
   ·exact hI.bb
   ·exact hI.bb
  ·exact hI.bb
 ·dsimp only;split
  ·rename_i hk;have:=h3 hk;unfold CM;split
   ·exact hl
   ·dsimp only;omega
  ·exact hl
def NL {d:xH} {i:It} {now:Int} {a:List Int} (h:Opn d i now a) (hk:i.kind=1∨9<=i.kind):opD d i now a=d:=by
 obtain⟨h1,_,_,_⟩:=NK h.2.2.2.2;unfold opD wC;rw[h1,yBc (λh=>by unfold LV at h;rw[yBi]at h;dsimp only at h;omega)]
def zN9 {ki:Int} {d:xH} {p:Ms} {k e:Int} (h:e≠0):hdM ki d p k e=⟨d,jK ki e,-1,e⟩:=yBc h
def zEq {ki:Int} {d:xH} {p:Ms} {k:Int}:hdM ki d p k 0=⟨d,p,k,0⟩:=yBd Z
def AQ {c:Cf} {d:xH} {s now:Int} {i:It} (hI:uW c d) {e:Int} (he:e≠0) (p:Ms) (d':xH) (hd:d'=d∨∃a,Opn d i now a/\d'=opD d i now a)
  (h1:zO 170 [wN c,zI d,iA s,vC i,iA now] [] (hT d' p (-1) e) []) (h2:HRc c d s now i ⟨d',jK i.kind e,-1,e⟩) (heb:0<=i.code/\i.code<=100->0<=e/\e<=100:=by(intro _;omega)):∃h,SD c d s i now h/\HdP c d s i now h:=by
 have hi:uW c d'/\d'.rg.ag=d.rg.ag/\d'.rg.num=d.rg.num/\d'.dr=d.dr/\d'.rg.tk=d.rg.tk:=by
  rcases hd with rfl|⟨a,ho,rfl⟩
  ·exact⟨hI,rfl,rfl,rfl,rfl⟩
  ·refine⟨zT0 hI ho,?_,?_,?_,?_⟩<;>(unfold opD wC;rw[(NK ho.2.2.2.2).1])
 have h3:=zTw c d s now i hI.bd d' p (-1) e h1;rw[zN9 he,hi.2.2.1]at h3;exact⟨⟨d',jK i.kind e,-1,e⟩,⟨h3,h2⟩,hi.1,hi.2.1,hi.2.2.1,λ_=>⟨rfl,rfl,hd⟩,λh=>absurd h he,.inl Z,by rw[hi.2.2.2.1];exact yBg _,T0.of hi.2.2.2.2 hi.2.1,heb,λ_ _=>by rw[show d'.au=d.au by rcases hd with h|⟨a,_,h⟩<;>rw[h];rfl],by dsimp only;rw[show d'.rq=d.rq by rcases hd with h|⟨a,_,h⟩<;>rw[h];rfl];exact YR.refl _⟩
def zXw {c:Cf} {d:xH} {s now:Int} {i:It} (hI:uW c d) (a:List Int) (ho:Opn d i now a) (p:Ms) (k:Int) (d':xH) (hi:uW c d') (ha:d'.rg.ag=d.rg.ag) (hn:d'.rg.num=d.rg.num)
  (hr:RpF d i now a ⟨d',p,k,0⟩) (hk:k= -1∨(i.kind=11/\0<=k/\k<(c.js.length:Int))) (hdl:d'.dr.length<=d.dr.length) (ht0:T0 d->T0 d')
  (h1:zO 170 [wN c,zI d,iA s,vC i,iA now] [] (hT d' p k 0) []) (h2:HRc c d s now i ⟨d',p,k,0⟩) (hau:d'.au=d.au) (hsc:YR d.rq d'.rq):∃h,SD c d s i now h/\HdP c d s i now h:=by
 have h3:=zTw c d s now i hI.bd d' p k 0 h1;rw[zEq,hn]at h3;exact⟨⟨d',p,k,0⟩,⟨h3,h2⟩,hi,ha,hn,λh=>absurd Z h,λ_=>⟨a,ho,hr⟩,hk,hdl,ht0,λ_=>by dsimp only;omega,λ_ _=>by dsimp only;rw[hau],hsc⟩
end Av
end Go.Proofs.YteajjdidebfcjaaGreat
