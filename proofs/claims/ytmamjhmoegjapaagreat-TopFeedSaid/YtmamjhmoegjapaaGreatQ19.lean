/- Part 19. -/
import Derived.Test.YtmamjhmoegjapaaGreatQ18
namespace Go.Proofs.YtmamjhmoegjapaaGreat
namespace Av
open Tryz
set_option linter.all false
set_option maxRecDepth 4000
set_option maxHeartbeats 4000000
theorem do5 (r:Rg) (hgv:gvF r=true) (tkn:List Int) (a s now:Int) (sec:List Int) (hu:fJ r.tk s=true) (hs:(sec.length:Int)=0∨(sec.length:Int)=8)
  (m1:zN 119 [zY ⟨5,tkn,[a],[]⟩] [] (bA true) []) (m2:zN 84 [zY ⟨5,tkn,[a],[]⟩] [] (bA true) []):XB r ⟨5,tkn,[a],[]⟩ s now sec:=by
 have H:=zGs hgv;have c1:=aO r NT;have k1:=cJ r NT;rw[hgv]at c1 k1;have c3:=WN r.tk s;rw[hu]at c3;have c4:=eW r H.b;have k4:=RH r H.b;have c6:=zPk ⟨5,tkn,[a],[]⟩ a rfl;have k6:=BK 5 a;rw[show zY ⟨14,[],[(⟨5,tkn,[a],[]⟩:Ms).kind,a],[]⟩= .agg [iA 14,.sl false [],.sl false [iA 5,iA a],.sl false []]from rfl]at c6;rw[show zY ⟨14,[],[5,a],[]⟩= .agg [iA 14,.sl false [],.sl false [iA 5,iA a],.sl false []]from rfl]at k6;obtain⟨o,e,⟨heb,_⟩,ho,c5,k5⟩:=GX r.vh NT a;have hls:=zA yA sec;have hlt:=zA xD r.tk;have hl1:([a].map iA).length=1:=rfl
 have hU:(r.tk.getD s.toNat default).used=true/\0<=s/\s<8:=by
  unfold fJ at hu;rw[zXo,zXi]at hu;exact⟨hu.2,hu.1.1,by have:=H.n8;omega⟩
 have hn8:=H.n8;have hy:=yM xD r.tk s hU.2.1 zB;have ho9:o.length<=8:=by have:=H.vl;omega
 have hbR:FU (rgV r o):=⟨H.b.tk,H.b.s,H.b.l,by have:=H.vl;show o.length<=_;omega⟩;obtain⟨hU,hs0,hs8⟩:=hU;clear hu H hgv;generalize r.tk.getD s.toNat default=x at *;obtain⟨xu,x1,x2,x3,x4,x5⟩:=x;dsimp only at hU;subst hU;rw[show xD ⟨true,x1,x2,x3,x4,x5⟩= .agg [bA true,zD yA x1,iA x2,iA x3,iA x4,iA x5]from rfl]at hy;by_cases he:e=0
 ·subst he;refine⟨rgV r o,⟨14,[],[5,a],[]⟩,false,0,hbR,⟨zXp _,by simp,zXp _⟩,⟨λh=>absurd rfl h,λ_=> .inr ⟨o,ho9,rfl,rfl,.inr rfl,rfl⟩⟩,?_,?_⟩
  ·rw[show zY ⟨14,[],[5,a],[]⟩= .agg [iA 14,.sl false [],.sl false [iA 5,iA a],.sl false []]from rfl]
   rcases hs with hs|hs
   all_goals
    refine eM call236 λF hF=>?_
    refine yO (zt6 c1 m1 c3 c4 c5 c6) ?_;exact zK
  ·rw[show zY ⟨14,[],[5,a],[]⟩= .agg [iA 14,.sl false [],.sl false [iA 5,iA a],.sl false []]from rfl]
   rcases hs with hs|hs
   all_goals
    exact yG
 ·refine .bad e he ?_ ?_
  ·rw[dV]
   rcases hs with hs|hs
   all_goals
    refine eM call236 λF hF=>?_
    refine yO (zt6 c1 m1 c3 c4 c5 c6) ?_;exact zK
  ·rw[dV]
   rcases hs with hs|hs
   all_goals
    exact yG
theorem GQ (r:Rg) (a b s:Int) (n8:r.tk.length=8) (h0:0<=s) (h8:s<8) (o:List Vh) (e:Int) (c:zN 286 [zD vZ r.vh,vH (agC r.ag (min r.ag.cls (r.tk.getD s.toNat default).cls)),vZ ⟨a,b⟩] [] (.tup [zD vZ o,iA e]) []):
  zN 263 [uW r,zD iA [a,b],iA s] [] (.tup [zD vZ o,iA e]) []:=by
 have hlt:=zA xD r.tk;have hl1:([a,b].map iA).length=2:=rfl;have hy:=yM xD r.tk s h0 zB;generalize r.tk.getD s.toNat default=x at *;obtain⟨xu,x1,x2,x3,x4,x5⟩:=x;rw[show xD ⟨xu,x1,x2,x3,x4,x5⟩= .agg [bA xu,zD yA x1,iA x2,iA x3,iA x4,iA x5]from rfl]at hy;rw[show(⟨xu,x1,x2,x3,x4,x5⟩:Tk).cls=x4 from rfl]at c;have hAG:vH (agC r.ag (min r.ag.cls x4))= .agg [zD yA r.ag.sec,iA r.ag.rights,iA (min r.ag.cls x4),zD iA r.ag.lim,iA r.ag.req,iA r.ag.ses,iA r.ag.rate,iA r.ag.burst]:=rfl;rw[hAG]at c;rw[show vZ ⟨a,b⟩= .agg [iA a,iA b]from rfl]at c;refine eM call263 λF hF=>?_
 refine zU c ?_;exact zK
theorem do4 (r:Rg) (hgv:gvF r=true) (tkn:List Int) (a b s now:Int) (sec:List Int) (hu:fJ r.tk s=true) (hs:(sec.length:Int)=0∨(sec.length:Int)=8)
  (m1:zN 119 [zY ⟨4,tkn,[a,b],[]⟩] [] (bA true) []) (m2:zN 84 [zY ⟨4,tkn,[a,b],[]⟩] [] (bA true) []):XB r ⟨4,tkn,[a,b],[]⟩ s now sec:=by
 have H:=zGs hgv;have c1:=aO r NT;have k1:=cJ r NT;rw[hgv]at c1 k1;have c3:=WN r.tk s;rw[hu]at c3;have c4:=eW r H.b;have k4:=RH r H.b
 have c6:zN 262 [zY ⟨4,tkn,[a,b],[]⟩] [] (zY ⟨14,[],[4,a],[]⟩) []:=by
  have hl1:([a,b].map iA).length=2:=rfl;refine eM call262 λF hF=>?_
  refine WL ?_;exact zK
 have k6:=BK 4 a;rw[show zY ⟨14,[],[4,a],[]⟩= .agg [iA 14,.sl false [],.sl false [iA 4,iA a],.sl false []]from rfl]at c6 k6;obtain⟨o,e,⟨heb,_⟩,⟨ho,ho8⟩,cv,k5⟩:=NA r.vh NT r.ag (r.tk.getD s.toNat default).cls H.lim H.cls.2 ⟨a,b⟩;have hls:=zA yA sec;have hlt:=zA xD r.tk;have hl1:([a,b].map iA).length=2:=rfl
 have hU:(r.tk.getD s.toNat default).used=true/\0<=s/\s<8:=by
  unfold fJ at hu;rw[zXo,zXi]at hu;exact⟨hu.2,hu.1.1,by have:=H.n8;omega⟩
 have hn8:=H.n8;have hy:=yM xD r.tk s hU.2.1 zB;have ho9:o.length<=8:=by have:=H.vl;omega
 have hbR:FU (rgV r o):=⟨H.b.tk,H.b.s,H.b.l,by have:=H.vl;show o.length<=_;omega⟩;obtain⟨hU,hs0,hs8⟩:=hU;have c5:=GQ r a b s hn8 hs0 hs8 o e cv;clear hu H hgv cv;generalize r.tk.getD s.toNat default=x at *;obtain⟨xu,x1,x2,x3,x4,x5⟩:=x;dsimp only at hU;subst hU;rw[show xD ⟨true,x1,x2,x3,x4,x5⟩= .agg [bA true,zD yA x1,iA x2,iA x3,iA x4,iA x5]from rfl]at hy;rw[show(⟨true,x1,x2,x3,x4,x5⟩:Tk).cls=x4 from rfl,show vZ ⟨a,b⟩= .agg [iA a,iA b]from rfl,show vH r.ag= .agg [zD yA r.ag.sec,iA r.ag.rights,iA r.ag.cls,zD iA r.ag.lim,iA r.ag.req,iA r.ag.ses,iA r.ag.rate,iA r.ag.burst]from rfl]at k5;by_cases he:e=0
 ·subst he;refine⟨rgV r o,⟨14,[],[4,a],[]⟩,false,0,hbR,⟨zXp _,by simp,zXp _⟩,⟨λh=>absurd rfl h,λ_=> .inr ⟨o,ho9,rfl,rfl,.inl rfl,rfl⟩⟩,?_,?_⟩
  ·rw[show zY ⟨14,[],[4,a],[]⟩= .agg [iA 14,.sl false [],.sl false [iA 4,iA a],.sl false []]from rfl]
   rcases hs with hs|hs
   all_goals
    refine eM call236 λF hF=>?_
    refine yO (zt6 c1 m1 c3 c4 c5 c6) ?_;exact zK
  ·rw[show zY ⟨14,[],[4,a],[]⟩= .agg [iA 14,.sl false [],.sl false [iA 4,iA a],.sl false []]from rfl]
   rcases hs with hs|hs
   all_goals
    exact yG
 ·refine .bad e he ?_ ?_
  ·rw[dV]
   rcases hs with hs|hs
   all_goals
    refine eM call236 λF hF=>?_
    refine yO (zt6 c1 m1 c3 c4 c5 c6) ?_;exact zK
  ·rw[dV]
   rcases hs with hs|hs
   all_goals
    exact yG
def zCz:AV:= .agg [iA 0,.s (.slice none 0 0),.s (.slice none 0 0),.s (.slice none 0 0)]
theorem BG (r:Rg) (s R c life now e:Int) (he:¬e=0) (k:Nat) (sec:List Int)
  (c1:zN 283 [zD xD r.tk,iA s,iA R,iA c,iA life,zD yA (List.replicate 8 0),iA now] [] (.tup [.sl false [],iA k,iA e]) []):
  zN 260 [.ptr 14 0 0,zD iA [R,c,life],iA s,iA now,zD yA sec] [(14,TW r)] (.tup [zCz,iA e]) [(14,TW r)]:=by
 have hls:=zA yA sec;have hl3:([R,c,life].map iA).length=3:=rfl;unfold TW zCz;rw[show zD yA (List.replicate 8 0)= .sl false (List.replicate 8 (AV.s (.int .u8 0)))from rfl]at c1;refine eM call260 λF hF=>?_
 (repeat' (first|refine WZX ?_|refine xQ (λhc=>?_) (λhc=>?_)|refine wD (λhc=>?_)|(refine zE ?_;first|refine SM ?_)|fail))
 refine jE (st':=⟨[(0,.ptr 14 0 0),(1,zD iA [R,c,life]),(2,iA s),(3,iA now),(4,zD yA sec),(10,.ptr 10 0 0),(11,iA 0),(12,.sl false (List.replicate 8 (AV.s (.int .u8 0))))],[(14,.box [iA r.num,zD yA r.ag.sec,iA r.ag.rights,iA r.ag.cls,zD iA r.ag.lim,iA r.ag.req,iA r.ag.ses,iA r.ag.rate,iA r.ag.burst,zD xD r.tk,zD vZ r.vh,iA r.bk.level,iA r.bk.rate,iA r.bk.burst]),(10,.box [iA 0,.s (.slice none 0 0),.s (.slice none 0 0),.s (.slice none 0 0)])]⟩) [14,10] [0,1,2,3,4,10,11,12] rfl rfl ?_;refine zU c1 ?_;exact zL [14] rfl rfl rfl rfl
theorem BH (r:Rg) (s R c life now:Int) (k:Nat) (l1:List Tk)
  (c1:zN 283 [zD xD r.tk,iA s,iA R,iA c,iA life,zD yA (List.replicate 8 0),iA now] [] (.tup [zD xD l1,iA k,iA 0]) []):
  zN 260 [.ptr 14 0 0,zD iA [R,c,life],iA s,iA now,zD yA []] [(14,TW r)] (.tup [zCz,iA 18]) [(14,TW r)]:=by
 have hls:(([]:List Int).map yA).length=0:=rfl;have hl3:([R,c,life].map iA).length=3:=rfl;unfold TW zCz;rw[show zD yA (List.replicate 8 0)= .sl false (List.replicate 8 (AV.s (.int .u8 0)))from rfl]at c1;refine eM call260 λF hF=>?_
 (repeat' (first|refine WZX ?_|refine xQ (λhc=>?_) (λhc=>?_)|refine wD (λhc=>?_)|(refine zE ?_;first|refine SM ?_)|fail))
 refine jE (st':=⟨[(0,.ptr 14 0 0),(1,zD iA [R,c,life]),(2,iA s),(3,iA now),(4,zD yA []),(10,.ptr 10 0 0),(11,iA 0),(12,.sl false (List.replicate 8 (AV.s (.int .u8 0))))],[(14,.box [iA r.num,zD yA r.ag.sec,iA r.ag.rights,iA r.ag.cls,zD iA r.ag.lim,iA r.ag.req,iA r.ag.ses,iA r.ag.rate,iA r.ag.burst,zD xD r.tk,zD vZ r.vh,iA r.bk.level,iA r.bk.rate,iA r.bk.burst]),(10,.box [iA 0,.s (.slice none 0 0),.s (.slice none 0 0),.s (.slice none 0 0)])]⟩) [14,10] [0,1,2,3,4,10,11,12] rfl rfl ?_;refine zU c1 ?_;exact zL [14] rfl rfl rfl rfl
theorem BI (r:Rg) (hg:0<=r.num/\r.num<4) (s R c life now:Int) (sec:List Int) (hs:(sec.length:Int)=8) (k:Nat) (hk8:k<8) (l1 l2:List Tk)
  (c1:zN 283 [zD xD r.tk,iA s,iA R,iA c,iA life,zD yA (List.replicate 8 0),iA now] [] (.tup [zD xD l1,iA k,iA 0]) [])
  (c2:zN 283 [zD xD r.tk,iA s,iA R,iA c,iA life,zD yA sec,iA now] [] (.tup [zD xD l2,iA k,iA 0]) []):
  zN 260 [.ptr 14 0 0,zD iA [R,c,life],iA s,iA now,zD yA sec] [(14,TW r)] (.tup [.agg [iA 16,.s (.slice none 0 0),.sl false [iA k],zD yA (r.num::(k:Int)::sec)],iA 0]) [(14,TW (rgT r l2))]:=by
 have c3:=zHd r.num k sec zB zB zB zB zB;have hls:=zA yA sec;have hl3:([R,c,life].map iA).length=3:=rfl;unfold TW rgT;dsimp only;generalize r.num::(k:Int)::sec=by1 at *;rw[show zD yA (List.replicate 8 0)= .sl false (List.replicate 8 (AV.s (.int .u8 0)))from rfl]at c1;refine eM call260 λF hF=>?_
 (repeat' (first|refine WZX ?_|refine xQ (λhc=>?_) (λhc=>?_)|refine wD (λhc=>?_)|(refine zE ?_;first|refine SM ?_)|fail))
 refine jE (st':=⟨[(0,.ptr 14 0 0),(1,zD iA [R,c,life]),(2,iA s),(3,iA now),(4,zD yA sec),(10,.ptr 10 0 0),(11,iA 0),(12,.sl false (List.replicate 8 (AV.s (.int .u8 0))))],[(14,.box [iA r.num,zD yA r.ag.sec,iA r.ag.rights,iA r.ag.cls,zD iA r.ag.lim,iA r.ag.req,iA r.ag.ses,iA r.ag.rate,iA r.ag.burst,zD xD r.tk,zD vZ r.vh,iA r.bk.level,iA r.bk.rate,iA r.bk.burst]),(10,.box [iA 0,.s (.slice none 0 0),.s (.slice none 0 0),.s (.slice none 0 0)])]⟩) [14,10] [0,1,2,3,4,10,11,12] rfl rfl ?_;refine yO (gU c1 c2 c3) ?_;exact zL [14] rfl rfl rfl rfl
theorem GR (r:Rg) (n8:r.tk.length=8) (tkn:List Int) (R c life s now:Int) (hs0:0<=s) (hs8:s<8) (x1:List Int) (x2 x3 x4 x5:Int) (hy:(r.tk.map xD)[s.toNat]? =some (.agg [bA true,zD yA x1,iA x2,iA x3,iA x4,iA x5])) (k:Nat) (e f:Int) (hf:(e=0/\f=18)∨(¬e=0/\f=e)) (l1:List Tk)
 (k1:yR [uW r] [] (bA true) []) (m2:zN 84 [zY ⟨2,tkn,[R,c,life],[]⟩] [] (bA true) []) (k4:yR [uW r] [] (uW r) [])
 (e1:yR [zD xD r.tk,iA s,iA R,iA c,iA life,zD yA (List.replicate 8 0),iA now] [] (.tup [zD xD l1,iA k,iA e]) []) (kb:zN 46 [iA r.num,iA k,zD yA []] [] (zD yA (r.num::(k:Int)::[])) []):
 yR [uW r,zY ⟨2,tkn,[R,c,life],[]⟩,iA s,iA now,zD yA []] [] (doR f) []:=yG
theorem GT (r:Rg) (n8:r.tk.length=8) (tkn:List Int) (R c life s now:Int) (sec:List Int) (hsl:(sec.length:Int)=8) (hs0:0<=s) (hs8:s<8) (x1:List Int) (x2 x3 x4 x5:Int) (hy:(r.tk.map xD)[s.toNat]? =some (.agg [bA true,zD yA x1,iA x2,iA x3,iA x4,iA x5])) (k:Nat) (e:Int) (l1:List Tk)
 (k1:yR [uW r] [] (bA true) []) (m2:zN 84 [zY ⟨2,tkn,[R,c,life],[]⟩] [] (bA true) []) (k4:yR [uW r] [] (uW r) [])
 (e1:yR [zD xD r.tk,iA s,iA R,iA c,iA life,zD yA sec,iA now] [] (.tup [zD xD l1,iA k,iA e]) []) (kb:zN 46 [iA r.num,iA k,zD yA sec] [] (zD yA (r.num::(k:Int)::sec)) []):
 yR [uW r,zY ⟨2,tkn,[R,c,life],[]⟩,iA s,iA now,zD yA sec] [] (if e=0 then .tup [uW (rgT r l1),zY ⟨16,[],[(k:Int)],r.num::(k:Int)::sec⟩,bA true,iA 0]else doR e) []:=yG
theorem do2 (r:Rg) (hgv:gvF r=true) (tkn:List Int) (R c life s now:Int) (sec:List Int) (hu:fJ r.tk s=true) (hs:(sec.length:Int)=0∨(sec.length:Int)=8)
  (m1:zN 119 [zY ⟨2,tkn,[R,c,life],[]⟩] [] (bA true) []) (m2:zN 84 [zY ⟨2,tkn,[R,c,life],[]⟩] [] (bA true) []):XB r ⟨2,tkn,[R,c,life],[]⟩ s now sec:=by
 have H:=zGs hgv;have c1:=aO r NT;have k1:=cJ r NT;rw[hgv]at c1 k1;have c3:=WN r.tk s;rw[hu]at c3;have c4:=eW r H.b;have k4:=RH r H.b;obtain⟨k,e,_,hk,hkf,hD⟩:=GY r.tk H.b.tk s R c life now;have hn8:=H.n8
 have hk8:k<8:=by rcases hk with h|h<;>omega
 have hT0:e=0->∀t,T0K r.tk (HB r.tk k e t):=λhe t h1 _=>by
  have h2:=(hkf he).2.2.2;unfold HB;rw[zW9 he];have hk0:k≠0:=λh=>by rw[h,h1]at h2;cases h2
  simp[List.getD,zZi,hk0]
 clear hkf;have kb:=aR r.num k sec zB H.num.1 (by have:=H.num;omega) zB zB;have hnum:=H.num;have hls:=zA yA sec;have hlt:=zA xD r.tk;have hl1:([R,c,life].map iA).length=3:=rfl
 have hU:(r.tk.getD s.toNat default).used=true/\0<=s/\s<8:=by
  unfold fJ at hu;rw[zXo,zXi]at hu;exact⟨hu.2,hu.1.1,zB⟩
 have hy:=yM xD r.tk s hU.2.1 zB;have hbR:∀t:Tk,t.sec.length<=1000000->FU (rgT r (HB r.tk k e t)):=λt ht=>⟨zRx H.b.tk k e t ht,H.b.s,H.b.l,H.b.v⟩
 obtain⟨hU,hs0,hs8⟩:=hU;clear hu H hgv hk;generalize r.tk.getD s.toNat default=x at *;obtain⟨xu,x1,x2,x3,x4,x5⟩:=x;dsimp only at hU;subst hU;rw[show xD ⟨true,x1,x2,x3,x4,x5⟩= .agg [bA true,zD yA x1,iA x2,iA x3,iA x4,iA x5]from rfl]at hy;obtain⟨d1,e1⟩:=hD (List.replicate 8 0) rfl;by_cases he:e=0
 ·subst he
  rcases hs with hs|hs
  ·
   have hs:=zYc (show sec.length=0 by omega);subst hs;have R1:=GR r hn8 tkn R c life s now hs0 hs8 x1 x2 x3 x4 x5 hy k 0 18 (.inl ⟨rfl,rfl⟩) _ k1 m2 k4 e1 kb;refine .bad 18 xL ?_ R1;clear R1;generalize HB r.tk k 0 ⟨true,List.replicate 8 0,s,R,c,DZ life now⟩=l1 at *;have c5:=BH r s R c life now k l1 d1;unfold TW zCz at c5;clear hD hbR;rw[dV];refine eM call236 λF hF=>?_
   refine yO (zt5 c1 m1 c3 c4 c5) ?_;exact zK
  ·obtain⟨d2,e2⟩:=hD sec hs;have R1:=GT r hn8 tkn R c life s now sec hs hs0 hs8 x1 x2 x3 x4 x5 hy k 0 _ k1 m2 k4 e2 kb;rw[zW9 rfl]at R1;refine⟨rgT r (HB r.tk k 0 ⟨true,sec,s,R,c,DZ life now⟩),⟨16,[],[(k:Int)],r.num::(k:Int)::sec⟩,true,0,hbR _ (by show sec.length<=_;omega),⟨zXp _,by simp,by simp;omega⟩,⟨λh=>absurd rfl h,λ_=> .inl ⟨_,by rw[HB,zW9 rfl,zY3];exact hn8,hT0 rfl _,rfl,.inr ⟨rfl,zB,rfl,k,hk8,rfl⟩⟩⟩,?_,R1⟩;clear R1;generalize HB r.tk k 0 ⟨true,List.replicate 8 0,s,R,c,DZ life now⟩=l1 at *;generalize HB r.tk k 0 ⟨true,sec,s,R,c,DZ life now⟩=l2 at *;have c5:=BI r hnum s R c life now sec hs k hk8 l1 l2 d1 d2;unfold TW at c5;clear hD hbR;rw[show zY ⟨16,[],[(k:Int)],r.num::(k:Int)::sec⟩= .agg [iA 16,.sl false [],.sl false [iA (k:Int)],zD yA (r.num::(k:Int)::sec)]from rfl];generalize r.num::(k:Int)::sec=by1 at *;refine eM call236 λF hF=>?_
   refine yO (zt5 c1 m1 c3 c4 c5) ?_;exact zK
 ·have hno:∀t,HB r.tk k e t=[]:=λt=>by unfold HB;rw[zW8 he]
  have d1':=d1;rw[hno]at d1';have c5:=BG r s R c life now e he k sec d1';unfold TW zCz at c5
  have R1:yR [uW r,zY ⟨2,tkn,[R,c,life],[]⟩,iA s,iA now,zD yA sec] [] (doR e) []:=by
   rcases hs with hs|hs
   ·have hs:=zYc (show sec.length=0 by omega);subst hs;exact GR r hn8 tkn R c life s now hs0 hs8 x1 x2 x3 x4 x5 hy k e e (.inr ⟨he,rfl⟩) _ k1 m2 k4 e1 kb
   ·obtain⟨d2,e2⟩:=hD sec hs;have R1:=GT r hn8 tkn R c life s now sec hs hs0 hs8 x1 x2 x3 x4 x5 hy k e _ k1 m2 k4 e2 kb;rw[zW8 he]at R1;exact R1
  refine .bad e he ?_ R1;clear R1 hD hbR hno e1 d1 d1';rw[dV]
  rcases hs with hs|hs
  all_goals
   refine eM call236 λF hF=>?_
   refine yO (zt5 c1 m1 c3 c4 c5) ?_;exact zK
theorem zGj (r:Rg) (m:Ms) (s now:Int) (sec:List Int) (c1:zN 258 [uW r] [] (bA true) []) (c2:zN 119 [zY m] [] (bA true) []) (c3:zN 259 [zD xD r.tk,iA s] [] (bA true) []) (c4:zN 187 [uW r] [] (uW r) []) (hs:(sec.length:Int)=0∨(sec.length:Int)=8)
  (h2:¬m.kind=2) (h3:¬m.kind=3) (h4:¬m.kind=4) (h5:¬m.kind=5):zN 236 [uW r,zY m,iA s,iA now,zD yA sec] [] (doR 1) []:=by
 rw[dV];have hls:=zA yA sec
 rcases hs with hs|hs
 all_goals
  refine eM call236 λF hF=>?_
  refine yO (aB c1 c2 c3 c4) ?_;exact zK
theorem zC0 {l:List Int} (h:l.length=1):∃a,l=[a]:=by
 match l,h with
 | [a],_=>exact⟨a,rfl⟩
theorem zWr {l:List Int} (h:l.length=2):∃a b,l=[a,b]:=by
 match l,h with
 | [a,b],_=>exact⟨a,b,rfl⟩
theorem zWs {l:List Int} (h:l.length=3):∃a b c,l=[a,b,c]:=by
 match l,h with
 | [a,b,c],_=>exact⟨a,b,c,rfl⟩
theorem zL8 (r:Rg) (hv:r.vh.length<=1000) (m:Ms) (hm:MsB m) (s now:Int) (sec:List Int) (hs:sec.length<=1000):XB r m s now sec:=by
 have c1:=aO r zB;have k1:=cJ r zB;obtain⟨b,c2,hb⟩:=zGy m hm;have c3:=WN r.tk s
 cases hg:gvF r with
 |false=>
  rw[hg]at c1 k1;exact .bad 1 xL (XA r m s now sec false b _ c1 c2 c3 (.inl rfl) hs) (zGt r m s now sec k1)
 |true=>
 have H:=zGs hg;rw[hg]at c1 k1;by_cases hk:m.kind=2∨m.kind=3∨m.kind=4∨m.kind=5
 case neg=>
  have h2:¬m.kind=2:=λh=>hk (.inl h)
  have h3:¬m.kind=3:=λh=>hk (.inr (.inl h))
  have h4:¬m.kind=4:=λh=>hk (.inr (.inr (.inl h)))
  have h5:¬m.kind=5:=λh=>hk (.inr (.inr (.inr h)))
  refine .bad 1 xL ?_ (zGu r m s now sec k1 h2 h3 h4 h5)
  cases b with
  |false=>exact XA r m s now sec true false _ c1 c2 c3 (.inr (.inl rfl)) hs
  |true=>
  cases hu:fJ r.tk s with
  |false=>exact XA r m s now sec true true _ c1 c2 c3 (.inr (.inr (.inl hu))) hs
  |true=>
  rw[hu]at c3;by_cases hsl:(sec.length:Int)=0∨(sec.length:Int)=8
  ·exact zGj r m s now sec c1 c2 c3 (eW r H.b) hsl h2 h3 h4 h5
  ·exact XA r m s now sec true true true c1 c2 c3 (.inr (.inr (.inr ⟨λh=>hsl (.inl h),λh=>hsl (.inr h)⟩))) hs
 obtain⟨f,hf⟩:∃f,kdP m.kind f:=by
  unfold kdP
  rcases hk with h|h|h|h
  ·exact⟨3,.inl ⟨h,rfl⟩⟩
  ·exact⟨1,.inr (.inl ⟨h,rfl⟩)⟩
  ·exact⟨2,.inr (.inr (.inl ⟨h,rfl⟩))⟩
  ·exact⟨1,.inr (.inr (.inr ⟨h,rfl⟩))⟩
 obtain⟨b',k2,hb'⟩:=zC4 m hm f hf
 have hbb:b'=b:=by
  have h1:=hb f hf
  cases b<;>cases b'<;>simp_all
 subst hbb;have h1:=hb f hf
 cases b' with
 |false=>exact .bad 1 xL (XA r m s now sec true false _ c1 c2 c3 (.inr (.inl rfl)) hs) (QJ r m s now sec H.n8 false k1 k2 hk (.inl rfl) hs)
 |true=>
 cases hu:fJ r.tk s with
 |false=>exact .bad 1 xL (XA r m s now sec true true _ c1 c2 c3 (.inr (.inr (.inl hu))) hs) (QJ r m s now sec H.n8 true k1 k2 hk (.inr (.inl hu)) hs)
 |true=>
 by_cases hsl:(sec.length:Int)=0∨(sec.length:Int)=8
 case neg=>
  have hq:¬(sec.length:Int)=0/\¬(sec.length:Int)=8:=⟨λh=>hsl (.inl h),λh=>hsl (.inr h)⟩;exact .bad 1 xL (XA r m s now sec true true _ c1 c2 c3 (.inr (.inr (.inr hq))) hs) (QJ r m s now sec H.n8 true k1 k2 hk (.inr (.inr hq)) hs)
 obtain⟨_,hd,hal,_⟩:=h1.1 rfl;obtain⟨mk,tkn,ar,da⟩:=m;dsimp only at hd hal hf;subst hd
 rcases hf with⟨rfl,rfl⟩|⟨rfl,rfl⟩|⟨rfl,rfl⟩|⟨rfl,rfl⟩
 ·obtain⟨x,y,z,rfl⟩:=zWs hal;exact do2 r hg tkn x y z s now sec hu hsl c2 k2
 ·obtain⟨x,rfl⟩:=zC0 hal;exact do3 r hg tkn x s now sec hu hsl c2 k2
 ·obtain⟨x,y,rfl⟩:=zWr hal;exact do4 r hg tkn x y s now sec hu hsl c2 k2
 ·obtain⟨x,rfl⟩:=zC0 hal;exact do5 r hg tkn x s now sec hu hsl c2 k2
def dgD (d:xP) (m:Ms) (r':Rg) (u:Bool) (e:Int):xP:=if e=0 then⟨r',(if m.kind=5 then FW d.rq (m.args.getD 0 0)else d.rq),(if u=true then d.dr.drop 1 else d.dr),d.au⟩else d
def OZ (d:xP):List Int:=d.dr.headD []
theorem zRo (d:xP) (m:Ms) (slot now:Int) (hv:aC d.rq) (hn:d.dr.length<=1000) (r':Rg) (p:Ms) (u:Bool) (e:Int)
  (f1:zN 236 [uW d.rg,zY m,iA slot,iA now,zD yA (OZ d)] [] (.tup [uW r',zY p,bA u,iA e]) []) (h5:m.kind=5->∃a,m.args=[a]):
  zN 214 [zJ d,zY m,iA slot,iA now] [] (.tup [zJ (dgD d m r' u e),zY (if e=0 then p else RD),iA e]) []:=by
 unfold dgD;obtain⟨rg,rq,dr,au⟩:=d;obtain⟨k,tk0,ar,da⟩:=m;unfold OZ at f1;dsimp only at *;have hlr:(dr.map kL).length=dr.length:=zA kL dr
 cases dr with
 | nil=>
  rw[List.headD_nil]at f1;by_cases he:e=0
  ·subst he;rw[zW9 rfl,zW9 rfl];by_cases hk:k=5
   ·subst hk;obtain⟨a,rfl⟩:=h5 rfl;have hw:=MM rq a hv;rw[zW9 rfl,show([a]:List Int).getD 0 0=a from rfl];generalize FW rq a=ql at *;unfold uW zY at f1;unfold zJ wL zY;cases u
    ·(refine eM call214 λF hF=>?_)
     refine yO (wW f1 hw) ?_;exact zK
    ·(refine eM call214 λF hF=>?_)
     refine yO (wW f1 hw) ?_;exact zK
   ·rw[zW8 hk];clear h5;unfold uW zY at f1;unfold zJ wL zY;cases u
    ·(refine eM call214 λF hF=>?_)
     refine zU f1 ?_;exact zK
    ·(refine eM call214 λF hF=>?_)
     refine zU f1 ?_;exact zK
  ·rw[zW8 he,zW8 he];clear h5;unfold uW zY at f1;unfold zJ wL zY RD;refine eM call214 λF hF=>?_
   refine zU f1 ?_;exact zK
 | cons b bs=>
  rw[List.headD_cons]at f1;have hlr:(kL b::bs.map kL).length=bs.length+1:=by rw[zXl,zXa]
  rw[zXl]at hn;have hbb:zD kL (b::bs)= .sl false (kL b::bs.map kL):=rfl;by_cases he:e=0
  ·subst he;rw[zW9 rfl,zW9 rfl];by_cases hk:k=5
   ·subst hk;obtain⟨a,rfl⟩:=h5 rfl;have hw:=MM rq a hv;rw[zW9 rfl,show([a]:List Int).getD 0 0=a from rfl];generalize FW rq a=ql at *;unfold uW zY at f1;unfold zJ wL zY;rw[hbb];cases u
    ·(refine eM call214 λF hF=>?_)
     refine yO (wW f1 hw) ?_;exact zK
    ·(refine eM call214 λF hF=>?_)
     refine yO (wW f1 hw) ?_;exact zK
   ·rw[zW8 hk];clear h5;unfold uW zY at f1;unfold zJ wL zY;rw[hbb];cases u
    ·(refine eM call214 λF hF=>?_)
     refine zU f1 ?_;exact zK
    ·(refine eM call214 λF hF=>?_)
     refine zU f1 ?_;exact zK
  ·rw[zW8 he,zW8 he];clear h5;unfold uW zY at f1;unfold zJ wL zY RD;rw[hbb];refine eM call214 λF hF=>?_
   refine zU f1 ?_;exact zK
theorem zL9 (d:xP) (m:Ms) (slot now:Int) (hv:aC d.rq) (hn:d.dr.length<=1000) (r':Rg) (p:Ms) (u:Bool) (e:Int)
 (f1:yR [uW d.rg,zY m,iA slot,iA now,zD yA (OZ d)] [] (.tup [uW r',zY p,bA u,iA e]) []) (h5:m.kind=5->∃a,m.args=[a]) (hu:u=true->d.dr≠[]):
 yR [zJ d,zY m,iA slot,iA now] [] (.tup [zJ (dgD d m r' u e),zY p,iA e]) []:=yG
structure It where
 code:Int
 kind:Int
 pay:List Int
def wI (i:It):AV:= .agg [iA i.code,iA i.kind,zD yA i.pay]
def hT (d:xP) (p:Ms) (k e:Int):AV:= .tup [zJ d,zY p,iA k,iA e]
theorem zMa (c:Cf) (d:xP) (s now:Int) (i:It) (hc:i.code≠0):zN 192 [wT c,zJ d,iA s,wI i,iA now] [] (hT d RD (-1) i.code) []:=by
 unfold wT hT zJ wL wI zY RD;refine eM call192 λF hF=>?_
 refine WW ?_;exact zK
theorem zMb (c:Cf) (d:xP) (s now:Int) (i:It) (hc:i.code=0) (hk:¬(1<=i.kind/\i.kind<=12)):zN 192 [wT c,zJ d,iA s,wI i,iA now] [] (hT d RD (-1) 5) []:=by
 have k1:=fI i.kind;rw[zXj hk]at k1;obtain⟨co,ki,pa⟩:=i;dsimp only at *;subst hc;unfold wT hT zJ wL wI zY RD;refine eM call192 λF hF=>?_
 refine zU k1 ?_;exact zK
theorem zMc (c:Cf) (d:xP) (s now k:Int) (pa:List Int) (h0:1<=k) (h1:k<=12) (k2:zN 80 [iA k,zD yA pa] [] (deT k (pa.take 10) none) []):zN 192 [wT c,zJ d,iA s,wI ⟨0,k,pa⟩,iA now] [] (hT d RD (-1) 6) []:=by
 have k1:=fI k;rw[zXg ⟨h0,h1⟩]at k1;unfold deT zY at k2;unfold wT hT zJ wL wI zY RD;refine eM call192 λF hF=>?_
 refine yO (wW k1 k2) ?_;exact zK
theorem zMd (c:Cf) (d:xP) (s now k:Int) (pa tk0 ar:List Int) (h0:1<=k) (h1:k<=12) (k2:zN 80 [iA k,zD yA pa] [] (.tup [zY ⟨k,tk0,ar,[]⟩,iA 0]) []) (r:Rg) (sl e:Int) (he:e≠0)
  (k3:zN 213 [uW d.rg,zY ⟨k,tk0,ar,[]⟩,iA now] [] (.tup [uW r,iA sl,iA e]) []):zN 192 [wT c,zJ d,iA s,wI ⟨0,k,pa⟩,iA now] [] (hT d RD (-1) e) []:=by
 have k1:=fI k;rw[zXg ⟨h0,h1⟩]at k1;unfold zY at k2 k3;unfold uW at k3;unfold wT hT zJ wL wI zY RD;refine eM call192 λF hF=>?_
 refine yO (gU k1 k2 k3) ?_;exact zK
def xZ (d:xP) (r:Rg):xP:=⟨r,d.rq,d.dr,d.au⟩
section
variable (c:Cf) (d:xP) (s now k:Int) (pa tk0 ar:List Int) (h0:1<=k) (h1:k<=12) (k2:zN 80 [iA k,zD yA pa] [] (.tup [zY ⟨k,tk0,ar,[]⟩,iA 0]) []) (r:Rg) (sl:Int)
 (k3:zN 213 [uW d.rg,zY ⟨k,tk0,ar,[]⟩,iA now] [] (.tup [uW r,iA sl,iA 0]) [])
include h0 h1 k2 k3
theorem zRp (hk:k=2∨k=3∨k=4∨k=5) (d':xP) (p:Ms) (e:Int) (k4:zN 214 [zJ (xZ d r),zY ⟨k,tk0,ar,[]⟩,iA sl,iA now] [] (.tup [zJ d',zY p,iA e]) []):
  zN 192 [wT c,zJ d,iA s,wI ⟨0,k,pa⟩,iA now] [] (hT d' p (-1) e) []:=by
 have k1:=fI k;rw[zXg ⟨h0,h1⟩]at k1;unfold zY at k2 k3 k4;unfold uW at k3;unfold xZ zJ wL at k4;unfold wT hT zJ wL wI zY
 rcases hk with rfl|rfl|rfl|rfl
 all_goals
  refine eM call192 λF hF=>?_
  refine yO (aB k1 k2 k3 k4) ?_;exact zK
theorem LX (hk:k=6∨k=7∨k=8) (l:List Rq) (e:Int) (he:e≠0) (k4:zN 215 [wT c,zJ (xZ d r),zY ⟨k,tk0,ar,[]⟩,iA sl,iA now] [] (.tup [zD yK l,iA e]) []):
  zN 192 [wT c,zJ d,iA s,wI ⟨0,k,pa⟩,iA now] [] (hT (xZ d r) RD (-1) e) []:=by
 have k1:=fI k;rw[zXg ⟨h0,h1⟩]at k1;unfold zY at k2 k3 k4;unfold uW at k3;unfold xZ wT zJ wL at k4;unfold xZ wT hT zJ wL wI zY RD
 rcases hk with rfl|rfl|rfl
 all_goals
  refine eM call192 λF hF=>?_
  refine yO (aB k1 k2 k3 k4) ?_;exact zK
theorem LY (hk:k=6∨k=7∨k=8) (a:Int) (as1:List Int) (har:ar=a::as1) (l:List Rq) (k4:zN 215 [wT c,zJ (xZ d r),zY ⟨k,tk0,ar,[]⟩,iA sl,iA now] [] (.tup [zD yK l,iA 0]) []):
  zN 192 [wT c,zJ d,iA s,wI ⟨0,k,pa⟩,iA now] [] (hT (dkQ (xZ d r) l) (hG k a) (-1) 0) []:=by
 subst har;have k1:=fI k;have k5:=KM k a;rw[zXg ⟨h0,h1⟩]at k1;unfold hG zY at k5;rw[show zY ⟨k,tk0,a::as1,[]⟩= .agg [iA k,zD yA tk0,.sl false (iA a::as1.map iA),.sl false []]from rfl]at k2 k3 k4;generalize as1.map iA=A at *;unfold uW at k3;unfold xZ wT zJ wL at k4;unfold dkQ xZ wT hT zJ wL wI hG zY
 rcases hk with rfl|rfl|rfl
 all_goals
  refine eM call192 λF hF=>?_
  refine yO (zt5 k1 k2 k3 k4 k5) ?_;exact zK
theorem LZ (hk:k=1∨k=9∨k=12) (p:Ms) (k4:zN 217 [zJ (xZ d r),iA k,iA now] [] (zY p) []):
  zN 192 [wT c,zJ d,iA s,wI ⟨0,k,pa⟩,iA now] [] (hT (xZ d r) p (-1) 0) []:=by
 have k1:=fI k;rw[zXg ⟨h0,h1⟩]at k1;unfold zY at k2 k3 k4;unfold uW at k3;unfold xZ zJ wL at k4;unfold xZ wT hT zJ wL wI zY
 rcases hk with rfl|rfl|rfl
 all_goals
  refine eM call192 λF hF=>?_
  refine yO (aB k1 k2 k3 k4) ?_;exact zK
theorem zMe (hk:k=11) (a:Int) (har:ar=[a]) (ha:(c.js.length:Int)<=a):
  zN 192 [wT c,zJ d,iA s,wI ⟨0,k,pa⟩,iA now] [] (hT (xZ d r) RD (-1) 8) []:=by
 subst hk har;have k1:=fI 11;have hlj:=zA wP c.js;rw[show zY ⟨11,tk0,[a],[]⟩= .agg [iA 11,zD yA tk0,.sl false [iA a],.sl false []]from rfl]at k2 k3;unfold uW at k3;unfold xZ wT hT zJ wL wI RD zY;refine eM call192 λF hF=>?_
 refine yO (gU k1 k2 k3) ?_;exact zK
theorem zMf (hk:k=11) (a:Int) (har:ar=[a]) (ha:a<(c.js.length:Int)):
  zN 192 [wT c,zJ d,iA s,wI ⟨0,k,pa⟩,iA now] [] (hT (xZ d r) (hG 11 a) a 0) []:=by
 subst hk har;have k1:=fI 11;have k5:=KM 11 a;have hlj:=zA wP c.js;unfold hG zY at k5;rw[show zY ⟨11,tk0,[a],[]⟩= .agg [iA 11,zD yA tk0,.sl false [iA a],.sl false []]from rfl]at k2 k3;unfold uW at k3;unfold xZ wT hT zJ wL wI hG zY;refine eM call192 λF hF=>?_
 refine yO (aB k1 k2 k3 k5) ?_;exact zK
theorem zMg (hk:k=10) (a:Int) (har:ar=[a]) (ha:1<a):
  zN 192 [wT c,zJ d,iA s,wI ⟨0,k,pa⟩,iA now] [] (hT (xZ d r) RD (-1) 8) []:=by
 subst hk har;have k1:=fI 10;rw[show zY ⟨10,tk0,[a],[]⟩= .agg [iA 10,zD yA tk0,.sl false [iA a],.sl false []]from rfl]at k2 k3;unfold uW at k3;unfold xZ wT hT zJ wL wI RD zY;refine eM call192 λF hF=>?_
 refine yO (gU k1 k2 k3) ?_;exact zK
theorem zMh (hk:k=10) (a:Int) (har:ar=[a]) (ha:a<=1) (hs:¬(0<=s/\s<(d.au.length:Int))):
  zN 192 [wT c,zJ d,iA s,wI ⟨0,k,pa⟩,iA now] [] (hT (xZ d r) (hG 10 a) (-1) 0) []:=by
 subst hk har;have k1:=fI 10;have k5:=KM 10 a;have hla:=zA bA d.au;unfold hG zY at k5;rw[show zY ⟨10,tk0,[a],[]⟩= .agg [iA 10,zD yA tk0,.sl false [iA a],.sl false []]from rfl]at k2 k3;unfold uW at k3;unfold xZ wT hT zJ wL wI hG zY;by_cases h2:0<=s
 ·have h3:(d.au.length:Int)<=s:=by omega
  refine eM call192 λF hF=>?_
  refine yO (aB k1 k2 k3 k5) ?_;exact zK
 ·(refine eM call192 λF hF=>?_)
  refine yO (aB k1 k2 k3 k5) ?_;exact zK
end
def pnF (b:List Int):Nat:=(b.getD 4 0).toNat*256+(b.getD 5 0).toNat
def prF (b:List Int):Option (It×Nat):=
 if b.length=0 then none
 else if b.getD 0 0≠90∨(1<b.length/\b.getD 1 0≠165)then some (⟨2,0,[]⟩,1)
 else if b.length<6 then none
 else if 200<pnF b then some (⟨7,0,[]⟩,1)
 else if b.length<pnF b+10 then none
 else if dM ((b.drop 2).take (pnF b+4))≠NL ((b.drop (pnF b+6)).take 4)then some (⟨4,0,[]⟩,1)
 else if b.getD 2 0≠1 then some (⟨3,0,[]⟩,pnF b+10)
 else if b.getD 3 0<1∨22<b.getD 3 0 then some (⟨5,0,[]⟩,pnF b+10)
 else some (⟨0,b.getD 3 0,(b.drop 6).take (pnF b)⟩,pnF b+10)
def zRq (o:Option (It×Nat)):AV:=match o with
 |none=> .tup [wI ⟨0,0,[]⟩,iA 0,bA false]
 |some x=> .tup [wI x.1,iA x.2,bA true]
theorem or8 {x y:Int} (hx:0<=x/\x<256) (hy:0<=y/\y<256):orI (IntKind.i64.wrap (x*2 ^ (min (8:Int).toNat IntKind.i64.bits))) y=x*256+y:=by
 have h1:IntKind.i64.wrap (x*2 ^ (min (8:Int).toNat IntKind.i64.bits))=x*256:=by
  rw[show x*2 ^ (min (8:Int).toNat IntKind.i64.bits)=x*256 from rfl];exact qT (k:= .i64) ⟨by show -9223372036854775808<=_;omega,by show _<=9223372036854775807;omega⟩
 rw[h1];obtain⟨a,rfl⟩:=zZ2 hx.1;obtain⟨c,rfl⟩:=zZ2 hy.1;have h2:=KX (a*256) c zB zB;have h3:=yBn (show c<2 ^ 8 by omega) a;rw[yC0]at h3;rw[show((a:Int)*256)=((a*256:Nat):Int) by omega,h2,<-h3];omega
theorem byI (b:List Int) (hb:BY b) (i:Nat) (hi:i<b.length):(b.map yA)[i]? =some (yA (b.getD i 0))/\0<=b.getD i 0/\b.getD i 0<256:=by
 have e:b.getD i 0=b[i]:=by simp[List.getD,hi]
 refine⟨by rw[zXd,zXr hi,e];rfl,?_⟩;rw[e];exact hb _ (zZy hi)
section
variable (b:List Int) (hb:BY b) (hl:b.length<=1000000)
include hb hl
theorem zMi:zN 134 [zD yA b] [] (zRq (prF b)) []:=by
 have hlb:=zA yA b;unfold prF;by_cases h0:b.length=0
 ·rw[zW9 h0];refine eM call134 λF hF=>?_
  refine WW ?_;exact zK
 rw[zW8 h0];obtain⟨y0,z0⟩:=byI b hb 0 zB;by_cases h1:b.getD 0 0=90
 case neg=>
  rw[zW9 (.inl h1)];generalize b.getD 0 0=x0 at *;refine eM call134 λF hF=>?_
  refine WW ?_;exact zK
 by_cases h2:1<b.length
 case neg=>
  rw[zW8 (λh=>h.elim (λh=>h h1) (λh=>h2 h.1)),zW9 zB];rw[h1]at y0;refine eM call134 λF hF=>?_
  refine WW ?_;exact zK
 obtain⟨y1,z1⟩:=byI b hb 1 h2;by_cases h3:b.getD 1 0=165
 case neg=>
  rw[zW9 (.inr ⟨h2,h3⟩)];rw[h1]at y0;generalize b.getD 1 0=x1 at *;refine eM call134 λF hF=>?_
  refine WW ?_;exact zK
 rw[zW8 (λh=>h.elim (λh=>h h1) (λh=>h.2 h3))];rw[h1]at y0;rw[h3]at y1;clear z0 z1 h1 h3;by_cases h4:b.length<6
 ·rw[zW9 h4];refine eM call134 λF hF=>?_
  refine WW ?_;exact zK
 rw[zW8 h4];obtain⟨y4,z4⟩:=byI b hb 4 zB;obtain⟨y5,z5⟩:=byI b hb 5 zB;have hor:=or8 z4 z5;have hpn:b.getD 4 0*256+b.getD 5 0=(pnF b:Int):=by unfold pnF;omega
 rw[hpn]at hor;generalize b.getD 4 0=x4 at *;generalize b.getD 5 0=x5 at *;generalize hN:pnF b=N at *;by_cases h6:200<N
 ·rw[zW9 h6];refine eM call134 λF hF=>?_
  refine WW ?_;exact zK
 rw[zW8 h6];have kz:=zBg (N:Int) zB zB;by_cases h7:b.length<N+10
 ·rw[zW9 h7];refine eM call134 λF hF=>?_
  (repeat' (first|refine qA ?_|refine xQ (λhc=>?_) (λhc=>?_)|refine wD (λhc=>?_)|(refine zE ?_;first|refine SM ?_)|fail))
  rw[hor];refine zU kz ?_;exact zK
 rw[zW8 h7];have bd:∀i k,BY ((b.drop i).take k):=λi k x hx=>hb x (zYl (zY1 hx))
 have kc:=zPs ((b.drop 2).take (N+4)) zPy (bd _ _);have kn:=zId ((b.drop (N+6)).take 4) zPy (bd _ _)
 have e1:((b.map yA).drop (2:Int).toNat).take ((6+(N:Int)).toNat-(2:Int).toNat)=((b.drop 2).take (N+4)).map yA:=by
  rw[yA5,yA4,show(6+(N:Int)).toNat-(2:Int).toNat=N+4 by omega];rfl
 have e2:((b.map yA).drop (6+(N:Int)).toNat).take ((6+(N:Int)+4).toNat-(6+(N:Int)).toNat)=((b.drop (N+6)).take 4).map yA:=by
  rw[yA5,yA4,show(6+(N:Int)+4).toNat-(6+(N:Int)).toNat=4 by omega,show(6+(N:Int)).toNat=N+6 by omega]
 have e3:((b.map yA).drop (6:Int).toNat).take ((6+(N:Int)).toNat-(6:Int).toNat)=((b.drop 6).take N).map yA:=by
  rw[yA5,yA4,show(6+(N:Int)).toNat-(6:Int).toNat=N by omega];rfl
 have hpl:(((b.drop 6).take N).map yA).length=N:=by rw[zXa,zXw,zYd];omega
 have hph:∀y,(((b.drop 6).take N).map yA)[0]? =some y->y.cells.length=1:=xH _ _ (λ_=>rfl);generalize (b.drop 2).take (N+4)=B1 at *;generalize (b.drop (N+6)).take 4=B2 at *;generalize (b.drop 6).take N=B3 at *;clear bd;obtain⟨y2,z2⟩:=byI b hb 2 zB;obtain⟨y3,z3⟩:=byI b hb 3 zB;generalize b.getD 2 0=x2 at *;generalize b.getD 3 0=x3 at *;generalize dM B1=u1 at *;generalize NL B2=u2 at *;by_cases h8:u1=u2
 case neg=>
  rw[zW9 h8];refine eM call134 λF hF=>?_
  (repeat' (first|refine qA ?_|refine xQ (λhc=>?_) (λhc=>?_)|refine wD (λhc=>?_)|(refine zE ?_;first|refine SM ?_)|fail))
  rw[hor];refine yO (gU kz kc kn) ?_;exact zK
 rw[zW8 (λh=>h h8)];by_cases h9:x2=1
 case neg=>
  rw[zW9 h9];refine eM call134 λF hF=>?_
  (repeat' (first|refine qA ?_|refine xQ (λhc=>?_) (λhc=>?_)|refine wD (λhc=>?_)|(refine zE ?_;first|refine SM ?_)|fail))
  rw[hor];refine yO (gU kz kc kn) ?_;refine zH [] rfl rfl (zX7 (λz=>AV.tup [.agg [iA 3,iA 0,.sl false []],iA z,bA true]) ?_) rfl;omega
 rw[zW8 (λh=>h h9)];by_cases h10:x3<1∨22<x3
 ·rw[zW9 h10]
  rcases h10 with h10|h10
  all_goals
   refine eM call134 λF hF=>?_
   (repeat' (first|refine qA ?_|refine xQ (λhc=>?_) (λhc=>?_)|refine wD (λhc=>?_)|(refine zE ?_;first|refine SM ?_)|fail))
   rw[hor];refine yO (gU kz kc kn) ?_;refine zH [] rfl rfl (zX7 (λz=>AV.tup [.agg [iA 5,iA 0,.sl false []],iA z,bA true]) ?_) rfl;omega
 ·rw[zW8 h10];have h11:1<=x3:=by omega
  have h12:x3<=22:=by omega
  refine eM call134 λF hF=>?_
  (repeat' (first|refine qA ?_|refine xQ (λhc=>?_) (λhc=>?_)|refine wD (λhc=>?_)|(refine zE ?_;first|refine SM ?_)|fail))
  rw[hor]
  (have zc1:=kz;have zc2:=kc;have zc3:=kn;(repeat' (first|refine qA ?_|refine xQ (λhc=>?_) (λhc=>?_)|refine wD (λhc=>?_)|(refine zE ?_;first|refine SM ?_|(refine uG (OA tok rfl rfl rfl rfl rfl rfl rfl hph rfl zB) rfl rfl rfl ?_))|fail))<;>clear zc1 zc2 zc3)
  have hsz:6+(N:Int)+4=((N+10:Nat):Int):=by omega
  refine zH [] rfl rfl ?_ rfl
  show AV.tup [.agg [iA 0,iA x3,.sl false (List.take N (List.drop 0 (List.take 0 (List.replicate N (yA 0))++B3.map yA++List.drop (0+(B3.map yA).length) (List.replicate N (yA 0)))))],iA (6+(N:Int)+4),bA true]=_
  rw[hsz,hpl,zYf,yAc,zZj,yBl zS,zX8,zXk zB];rfl
end
def mkR (now:Int) (r:Rq):Rq:=⟨r.id,r.vh,r.cls,r.til,r.legs.map λg=>aV g now⟩
def mkQ (l:List Rq) (now:Int):List Rq:=l.map (mkR now)
def fN (l:List Lg) (now:Int) (k:Nat):List Lg:=(l.take k).map (λg=>aV g now)++l.drop k
theorem RB (l:List Lg) (now:Int):fN l now l.length=l.map λg=>aV g now:=by simp[fN]
theorem gR (l:List Lg) (now:Int) (k:Nat):(fN l now k).length=l.length:=by simp[fN];omega
theorem dU {l pre post:List Lg} {g:Lg} {k:Nat} (now:Int) (hx:l=pre++g::post) (hk:pre.length=k):((fN l now k).map xU)[k]? =some (xU g):=by
 subst hx hk;simp[fN]
theorem gS {l pre post:List Lg} {g:Lg} {k:Nat} (now:Int) (hx:l=pre++g::post) (hk:pre.length=k):(fN l now (k+1)).map xU=((fN l now k).map xU).set k (xU (aV g now)):=by
 subst hx hk;have e1:(pre++g::post).take (pre.length+1)=pre++[g]:=by rw[List.take_append,zXk zB];simp
 have e2:(pre++g::post).drop (pre.length+1)=post:=by rw[List.drop_append];simp
 have e3:(pre++g::post).take pre.length=pre:=by simp
 have e4:(pre++g::post).drop pre.length=g::post:=by simp
 unfold fN;rw[e1,e2,e3,e4];simp
theorem tkM (l:List Lg) (now:Int):List.take (l.map xU).length (List.drop 0 ((l.map λg=>aV g now).map xU))=(l.map λg=>aV g now).map xU:=by
 rw[zYf];exact zXk zS
def gT (r:Rq) (now:Int) (k:Nat):xN:= .arr 5 ((fN r.legs now k).map xU) false
theorem zMj (a:Rq) (ha:1<=a.legs.length) (ga:a.legs.length<=1000) (now:Int):zN 159 [zD yK [a],iA now] [] (zD yK (mkQ [a] now)) []:=by
 have kc:=FJ a ha ga;have la:=zA xU a.legs;refine eM call159 λF hF=>?_
 refine zU kc ?_;refine uK 2 [1001,1101] [13,11,12,1,5] rfl ?_;refine xB (st0:=⟨[(13,iA 0),(11,.ref 1001 0 1),(12,iA 1),(1,iA now),(5,.ref 1001 0 1)],[(1001,.arr 5 [uU a 1101] ⟨false,true⟩),(1101,gT a now 0)]⟩) rfl ?_;unfold gT;refine WW ?_;refine yB (a.legs) [1101,7,1001] [7,1001] [1,5,7,11,12,13,19] [20,1,5,7,11,12,13,19] rfl (λi pre T U=>⟨(20,iA i)::T,(1101,.arr 5 ((fN a.legs now i).map xU) false)::U⟩) ?_;(conv=>whnf);refine⟨by rfl,?_,?_⟩
 ·intro k pre g post hx hk;have hlt:=yF hx hk;have hy:=dU now hx hk;have hs:=gS now hx hk;have hyl:((fN a.legs now k).map xU).length=a.legs.length:=by rw[zXa,gR]
  have hset:∀y:AV,(((fN a.legs now k).map xU).set k y)[k]? =some y:=λy=>zYw zB
  have cw:=gV g now;rw[hs];clear hx hs;generalize (fN a.legs now k).map xU=ys at *;generalize aV g now=g2 at*
  (have zc1:=cw;(repeat' (first|refine qA ?_|refine xQ (λhc=>?_) (λhc=>?_)|refine wD (λhc=>?_)|fail))<;>clear zc1)
  rfl
 refine WW ?_;refine xB (st0:=⟨[(13,iA 1),(11,.ref 1001 0 1),(12,iA 1),(1,iA now),(5,.ref 1001 0 1)],[(1001,.arr 5 [uU a 1101] ⟨false,true⟩),(1101,gT a now a.legs.length)]⟩) rfl ?_;unfold gT;simp only[RB];refine WW ?_;refine zH [] rfl rfl ?_ rfl
 show AV.sl false [.agg [iA a.id,iA a.vh,iA a.cls,iA a.til,.sl false (List.take (a.legs.map xU).length (List.drop 0 ((a.legs.map λg=>aV g now).map xU)))]]=_
 simp only[tkM];rfl
theorem zMk (a b:Rq) (ha:1<=a.legs.length) (ga:a.legs.length<=1000) (hb:1<=b.legs.length) (gb:b.legs.length<=1000) (now:Int):zN 159 [zD yK [a,b],iA now] [] (zD yK (mkQ [a,b] now)) []:=by
 have kc:=FK a b ha ga hb gb;have la:=zA xU a.legs;have lb:=zA xU b.legs;refine eM call159 λF hF=>?_
 refine zU kc ?_;refine uK 3 [1001,1101,1102] [13,11,12,1,5] rfl ?_;refine xB (st0:=⟨[(13,iA 0),(11,.ref 1001 0 2),(12,iA 2),(1,iA now),(5,.ref 1001 0 2)],[(1001,.arr 5 [uU a 1101,uU b 1102] ⟨true,true⟩),(1101,gT a now 0),(1102,gT b now 0)]⟩) rfl ?_;unfold gT;refine WW ?_;refine yB (a.legs) [1101,7,1001,1102] [7,1001,1102] [1,5,7,11,12,13,19] [20,1,5,7,11,12,13,19] rfl (λi pre T U=>⟨(20,iA i)::T,(1101,.arr 5 ((fN a.legs now i).map xU) false)::U⟩) ?_;(conv=>whnf);refine⟨by rfl,?_,?_⟩
 ·intro k pre g post hx hk;have hlt:=yF hx hk;have hy:=dU now hx hk;have hs:=gS now hx hk;have hyl:((fN a.legs now k).map xU).length=a.legs.length:=by rw[zXa,gR]
  have hset:∀y:AV,(((fN a.legs now k).map xU).set k y)[k]? =some y:=λy=>zYw zB
  have cw:=gV g now;rw[hs];clear hx hs;generalize (fN a.legs now k).map xU=ys at *;generalize aV g now=g2 at*
  (have zc1:=cw;(repeat' (first|refine qA ?_|refine xQ (λhc=>?_) (λhc=>?_)|refine wD (λhc=>?_)|fail))<;>clear zc1)
  rfl
 refine WW ?_;refine xB (st0:=⟨[(13,iA 1),(11,.ref 1001 0 2),(12,iA 2),(1,iA now),(5,.ref 1001 0 2)],[(1001,.arr 5 [uU a 1101,uU b 1102] ⟨true,true⟩),(1101,gT a now a.legs.length),(1102,gT b now 0)]⟩) rfl ?_;unfold gT;refine WW ?_;refine yB (b.legs) [1102,7,1001,1101] [7,1001,1101] [1,5,7,11,12,13,19] [20,1,5,7,11,12,13,19] rfl (λi pre T U=>⟨(20,iA i)::T,(1102,.arr 5 ((fN b.legs now i).map xU) false)::U⟩) ?_;(conv=>whnf);refine⟨by rfl,?_,?_⟩
 ·intro k pre g post hx hk;have hlt:=yF hx hk;have hy:=dU now hx hk;have hs:=gS now hx hk;have hyl:((fN b.legs now k).map xU).length=b.legs.length:=by rw[zXa,gR]
  have hset:∀y:AV,(((fN b.legs now k).map xU).set k y)[k]? =some y:=λy=>zYw zB
  have cw:=gV g now;rw[hs];clear hx hs;generalize (fN b.legs now k).map xU=ys at *;generalize aV g now=g2 at*
  (have zc1:=cw;(repeat' (first|refine qA ?_|refine xQ (λhc=>?_) (λhc=>?_)|refine wD (λhc=>?_)|fail))<;>clear zc1)
  rfl
 refine WW ?_;refine xB (st0:=⟨[(13,iA 2),(11,.ref 1001 0 2),(12,iA 2),(1,iA now),(5,.ref 1001 0 2)],[(1001,.arr 5 [uU a 1101,uU b 1102] ⟨true,true⟩),(1101,gT a now a.legs.length),(1102,gT b now b.legs.length)]⟩) rfl ?_;unfold gT;simp only[RB];refine WW ?_;refine zH [] rfl rfl ?_ rfl
 show AV.sl false [.agg [iA a.id,iA a.vh,iA a.cls,iA a.til,.sl false (List.take (a.legs.map xU).length (List.drop 0 ((a.legs.map λg=>aV g now).map xU)))],.agg [iA b.id,iA b.vh,iA b.cls,iA b.til,.sl false (List.take (b.legs.map xU).length (List.drop 0 ((b.legs.map λg=>aV g now).map xU)))]]=_
 simp only[tkM];rfl
theorem zMl (a b c:Rq) (ha:1<=a.legs.length) (ga:a.legs.length<=1000) (hb:1<=b.legs.length) (gb:b.legs.length<=1000) (hc:1<=c.legs.length) (gc:c.legs.length<=1000) (now:Int):zN 159 [zD yK [a,b,c],iA now] [] (zD yK (mkQ [a,b,c] now)) []:=by
 have kc:=FL a b c ha ga hb gb hc gc;have la:=zA xU a.legs;have lb:=zA xU b.legs;have lc:=zA xU c.legs;refine eM call159 λF hF=>?_
 refine zU kc ?_;refine uK 4 [1001,1101,1102,1103] [13,11,12,1,5] rfl ?_;refine xB (st0:=⟨[(13,iA 0),(11,.ref 1001 0 3),(12,iA 3),(1,iA now),(5,.ref 1001 0 3)],[(1001,.arr 5 [uU a 1101,uU b 1102,uU c 1103] ⟨true,true⟩),(1101,gT a now 0),(1102,gT b now 0),(1103,gT c now 0)]⟩) rfl ?_;unfold gT;refine WW ?_;refine yB (a.legs) [1101,7,1001,1102,1103] [7,1001,1102,1103] [1,5,7,11,12,13,19] [20,1,5,7,11,12,13,19] rfl (λi pre T U=>⟨(20,iA i)::T,(1101,.arr 5 ((fN a.legs now i).map xU) false)::U⟩) ?_;(conv=>whnf);refine⟨by rfl,?_,?_⟩
 ·intro k pre g post hx hk;have hlt:=yF hx hk;have hy:=dU now hx hk;have hs:=gS now hx hk;have hyl:((fN a.legs now k).map xU).length=a.legs.length:=by rw[zXa,gR]
  have hset:∀y:AV,(((fN a.legs now k).map xU).set k y)[k]? =some y:=λy=>zYw zB
  have cw:=gV g now;rw[hs];clear hx hs;generalize (fN a.legs now k).map xU=ys at *;generalize aV g now=g2 at*
  (have zc1:=cw;(repeat' (first|refine qA ?_|refine xQ (λhc=>?_) (λhc=>?_)|refine wD (λhc=>?_)|fail))<;>clear zc1)
  rfl
 refine WW ?_;refine xB (st0:=⟨[(13,iA 1),(11,.ref 1001 0 3),(12,iA 3),(1,iA now),(5,.ref 1001 0 3)],[(1001,.arr 5 [uU a 1101,uU b 1102,uU c 1103] ⟨true,true⟩),(1101,gT a now a.legs.length),(1102,gT b now 0),(1103,gT c now 0)]⟩) rfl ?_;unfold gT;refine WW ?_;refine yB (b.legs) [1102,7,1001,1101,1103] [7,1001,1101,1103] [1,5,7,11,12,13,19] [20,1,5,7,11,12,13,19] rfl (λi pre T U=>⟨(20,iA i)::T,(1102,.arr 5 ((fN b.legs now i).map xU) false)::U⟩) ?_;(conv=>whnf);refine⟨by rfl,?_,?_⟩
 ·intro k pre g post hx hk;have hlt:=yF hx hk;have hy:=dU now hx hk;have hs:=gS now hx hk;have hyl:((fN b.legs now k).map xU).length=b.legs.length:=by rw[zXa,gR]
  have hset:∀y:AV,(((fN b.legs now k).map xU).set k y)[k]? =some y:=λy=>zYw zB
  have cw:=gV g now;rw[hs];clear hx hs;generalize (fN b.legs now k).map xU=ys at *;generalize aV g now=g2 at*
  (have zc1:=cw;(repeat' (first|refine qA ?_|refine xQ (λhc=>?_) (λhc=>?_)|refine wD (λhc=>?_)|fail))<;>clear zc1)
  rfl
 refine WW ?_;refine xB (st0:=⟨[(13,iA 2),(11,.ref 1001 0 3),(12,iA 3),(1,iA now),(5,.ref 1001 0 3)],[(1001,.arr 5 [uU a 1101,uU b 1102,uU c 1103] ⟨true,true⟩),(1101,gT a now a.legs.length),(1102,gT b now b.legs.length),(1103,gT c now 0)]⟩) rfl ?_;unfold gT;refine WW ?_;refine yB (c.legs) [1103,7,1001,1101,1102] [7,1001,1101,1102] [1,5,7,11,12,13,19] [20,1,5,7,11,12,13,19] rfl (λi pre T U=>⟨(20,iA i)::T,(1103,.arr 5 ((fN c.legs now i).map xU) false)::U⟩) ?_;(conv=>whnf);refine⟨by rfl,?_,?_⟩
 ·intro k pre g post hx hk;have hlt:=yF hx hk;have hy:=dU now hx hk;have hs:=gS now hx hk;have hyl:((fN c.legs now k).map xU).length=c.legs.length:=by rw[zXa,gR]
  have hset:∀y:AV,(((fN c.legs now k).map xU).set k y)[k]? =some y:=λy=>zYw zB
  have cw:=gV g now;rw[hs];clear hx hs;generalize (fN c.legs now k).map xU=ys at *;generalize aV g now=g2 at*
  (have zc1:=cw;(repeat' (first|refine qA ?_|refine xQ (λhc=>?_) (λhc=>?_)|refine wD (λhc=>?_)|fail))<;>clear zc1)
  rfl
 refine WW ?_;refine xB (st0:=⟨[(13,iA 3),(11,.ref 1001 0 3),(12,iA 3),(1,iA now),(5,.ref 1001 0 3)],[(1001,.arr 5 [uU a 1101,uU b 1102,uU c 1103] ⟨true,true⟩),(1101,gT a now a.legs.length),(1102,gT b now b.legs.length),(1103,gT c now c.legs.length)]⟩) rfl ?_;unfold gT;simp only[RB];refine WW ?_;refine zH [] rfl rfl ?_ rfl
 show AV.sl false [.agg [iA a.id,iA a.vh,iA a.cls,iA a.til,.sl false (List.take (a.legs.map xU).length (List.drop 0 ((a.legs.map λg=>aV g now).map xU)))],.agg [iA b.id,iA b.vh,iA b.cls,iA b.til,.sl false (List.take (b.legs.map xU).length (List.drop 0 ((b.legs.map λg=>aV g now).map xU)))],.agg [iA c.id,iA c.vh,iA c.cls,iA c.til,.sl false (List.take (c.legs.map xU).length (List.drop 0 ((c.legs.map λg=>aV g now).map xU)))]]=_
 simp only[tkM];rfl
theorem zMm (a b c d:Rq) (ha:1<=a.legs.length) (ga:a.legs.length<=1000) (hb:1<=b.legs.length) (gb:b.legs.length<=1000) (hc:1<=c.legs.length) (gc:c.legs.length<=1000) (hd:1<=d.legs.length) (gd:d.legs.length<=1000) (now:Int):zN 159 [zD yK [a,b,c,d],iA now] [] (zD yK (mkQ [a,b,c,d] now)) []:=by
 have kc:=FM a b c d ha ga hb gb hc gc hd gd;have la:=zA xU a.legs;have lb:=zA xU b.legs;have lc:=zA xU c.legs;have ld:=zA xU d.legs;refine eM call159 λF hF=>?_
 refine zU kc ?_;refine uK 5 [1001,1101,1102,1103,1104] [13,11,12,1,5] rfl ?_;refine xB (st0:=⟨[(13,iA 0),(11,.ref 1001 0 4),(12,iA 4),(1,iA now),(5,.ref 1001 0 4)],[(1001,.arr 5 [uU a 1101,uU b 1102,uU c 1103,uU d 1104] ⟨true,true⟩),(1101,gT a now 0),(1102,gT b now 0),(1103,gT c now 0),(1104,gT d now 0)]⟩) rfl ?_;unfold gT;refine WW ?_;refine yB (a.legs) [1101,7,1001,1102,1103,1104] [7,1001,1102,1103,1104] [1,5,7,11,12,13,19] [20,1,5,7,11,12,13,19] rfl (λi pre T U=>⟨(20,iA i)::T,(1101,.arr 5 ((fN a.legs now i).map xU) false)::U⟩) ?_;(conv=>whnf);refine⟨by rfl,?_,?_⟩
 ·intro k pre g post hx hk;have hlt:=yF hx hk;have hy:=dU now hx hk;have hs:=gS now hx hk;have hyl:((fN a.legs now k).map xU).length=a.legs.length:=by rw[zXa,gR]
  have hset:∀y:AV,(((fN a.legs now k).map xU).set k y)[k]? =some y:=λy=>zYw zB
  have cw:=gV g now;rw[hs];clear hx hs;generalize (fN a.legs now k).map xU=ys at *;generalize aV g now=g2 at*
  (have zc1:=cw;(repeat' (first|refine qA ?_|refine xQ (λhc=>?_) (λhc=>?_)|refine wD (λhc=>?_)|fail))<;>clear zc1)
  rfl
 refine WW ?_;refine xB (st0:=⟨[(13,iA 1),(11,.ref 1001 0 4),(12,iA 4),(1,iA now),(5,.ref 1001 0 4)],[(1001,.arr 5 [uU a 1101,uU b 1102,uU c 1103,uU d 1104] ⟨true,true⟩),(1101,gT a now a.legs.length),(1102,gT b now 0),(1103,gT c now 0),(1104,gT d now 0)]⟩) rfl ?_;unfold gT;refine WW ?_;refine yB (b.legs) [1102,7,1001,1101,1103,1104] [7,1001,1101,1103,1104] [1,5,7,11,12,13,19] [20,1,5,7,11,12,13,19] rfl (λi pre T U=>⟨(20,iA i)::T,(1102,.arr 5 ((fN b.legs now i).map xU) false)::U⟩) ?_;(conv=>whnf);refine⟨by rfl,?_,?_⟩
 ·intro k pre g post hx hk;have hlt:=yF hx hk;have hy:=dU now hx hk;have hs:=gS now hx hk;have hyl:((fN b.legs now k).map xU).length=b.legs.length:=by rw[zXa,gR]
  have hset:∀y:AV,(((fN b.legs now k).map xU).set k y)[k]? =some y:=λy=>zYw zB
  have cw:=gV g now;rw[hs];clear hx hs;generalize (fN b.legs now k).map xU=ys at *;generalize aV g now=g2 at*
  (have zc1:=cw;(repeat' (first|refine qA ?_|refine xQ (λhc=>?_) (λhc=>?_)|refine wD (λhc=>?_)|fail))<;>clear zc1)
  rfl
 refine WW ?_;refine xB (st0:=⟨[(13,iA 2),(11,.ref 1001 0 4),(12,iA 4),(1,iA now),(5,.ref 1001 0 4)],[(1001,.arr 5 [uU a 1101,uU b 1102,uU c 1103,uU d 1104] ⟨true,true⟩),(1101,gT a now a.legs.length),(1102,gT b now b.legs.length),(1103,gT c now 0),(1104,gT d now 0)]⟩) rfl ?_;unfold gT;refine WW ?_;refine yB (c.legs) [1103,7,1001,1101,1102,1104] [7,1001,1101,1102,1104] [1,5,7,11,12,13,19] [20,1,5,7,11,12,13,19] rfl (λi pre T U=>⟨(20,iA i)::T,(1103,.arr 5 ((fN c.legs now i).map xU) false)::U⟩) ?_;(conv=>whnf);refine⟨by rfl,?_,?_⟩
 ·intro k pre g post hx hk;have hlt:=yF hx hk;have hy:=dU now hx hk;have hs:=gS now hx hk;have hyl:((fN c.legs now k).map xU).length=c.legs.length:=by rw[zXa,gR]
  have hset:∀y:AV,(((fN c.legs now k).map xU).set k y)[k]? =some y:=λy=>zYw zB
  have cw:=gV g now;rw[hs];clear hx hs;generalize (fN c.legs now k).map xU=ys at *;generalize aV g now=g2 at*
  (have zc1:=cw;(repeat' (first|refine qA ?_|refine xQ (λhc=>?_) (λhc=>?_)|refine wD (λhc=>?_)|fail))<;>clear zc1)
  rfl
 refine WW ?_;refine xB (st0:=⟨[(13,iA 3),(11,.ref 1001 0 4),(12,iA 4),(1,iA now),(5,.ref 1001 0 4)],[(1001,.arr 5 [uU a 1101,uU b 1102,uU c 1103,uU d 1104] ⟨true,true⟩),(1101,gT a now a.legs.length),(1102,gT b now b.legs.length),(1103,gT c now c.legs.length),(1104,gT d now 0)]⟩) rfl ?_;unfold gT;refine WW ?_;refine yB (d.legs) [1104,7,1001,1101,1102,1103] [7,1001,1101,1102,1103] [1,5,7,11,12,13,19] [20,1,5,7,11,12,13,19] rfl (λi pre T U=>⟨(20,iA i)::T,(1104,.arr 5 ((fN d.legs now i).map xU) false)::U⟩) ?_;(conv=>whnf);refine⟨by rfl,?_,?_⟩
 ·intro k pre g post hx hk;have hlt:=yF hx hk;have hy:=dU now hx hk;have hs:=gS now hx hk;have hyl:((fN d.legs now k).map xU).length=d.legs.length:=by rw[zXa,gR]
  have hset:∀y:AV,(((fN d.legs now k).map xU).set k y)[k]? =some y:=λy=>zYw zB
  have cw:=gV g now;rw[hs];clear hx hs;generalize (fN d.legs now k).map xU=ys at *;generalize aV g now=g2 at*
  (have zc1:=cw;(repeat' (first|refine qA ?_|refine xQ (λhc=>?_) (λhc=>?_)|refine wD (λhc=>?_)|fail))<;>clear zc1)
  rfl
 refine WW ?_;refine xB (st0:=⟨[(13,iA 4),(11,.ref 1001 0 4),(12,iA 4),(1,iA now),(5,.ref 1001 0 4)],[(1001,.arr 5 [uU a 1101,uU b 1102,uU c 1103,uU d 1104] ⟨true,true⟩),(1101,gT a now a.legs.length),(1102,gT b now b.legs.length),(1103,gT c now c.legs.length),(1104,gT d now d.legs.length)]⟩) rfl ?_;unfold gT;simp only[RB];refine WW ?_;refine zH [] rfl rfl ?_ rfl
 show AV.sl false [.agg [iA a.id,iA a.vh,iA a.cls,iA a.til,.sl false (List.take (a.legs.map xU).length (List.drop 0 ((a.legs.map λg=>aV g now).map xU)))],.agg [iA b.id,iA b.vh,iA b.cls,iA b.til,.sl false (List.take (b.legs.map xU).length (List.drop 0 ((b.legs.map λg=>aV g now).map xU)))],.agg [iA c.id,iA c.vh,iA c.cls,iA c.til,.sl false (List.take (c.legs.map xU).length (List.drop 0 ((c.legs.map λg=>aV g now).map xU)))],.agg [iA d.id,iA d.vh,iA d.cls,iA d.til,.sl false (List.take (d.legs.map xU).length (List.drop 0 ((d.legs.map λg=>aV g now).map xU)))]]=_
 simp only[tkM];rfl
end Av
end Go.Proofs.YtmamjhmoegjapaaGreat
