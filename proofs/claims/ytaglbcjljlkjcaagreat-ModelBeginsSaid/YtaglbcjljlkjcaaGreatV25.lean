/- Part 25. -/
import Derived.Test.YtaglbcjljlkjcaaGreatV24
namespace Go.Proofs.YtaglbcjljlkjcaaGreat.Av
open Tryz
set_option linter.all false
set_option maxRecDepth 4000
set_option maxHeartbeats 8000000
open List renaming length->ln,replicate->pg,range->pi,take->py,drop->p5
open Inhabited renaming default->dd
variable {c:Cf}{y:Cy}{ga:Int}{ins:List In}{R:Nat->DR}
section
variable {P:Program} {K0:List Nat} {F:Fr K0} {m:Nat} {ops:Array Oper} {rest:List Oper} {fs:List FP} {tm:List (Nat×AV)} {h:List (Nat×xM)}
def ba {Q:List FP->St->Prop} (t K sz:Nat) (hv:zL tm t= .s (.slice none 0 0)) (u:(zD h K).isNone=true) (z:Nat.ble 1 sz=true) (h1:yP P F m ops false rest ⟨(t,.ref K 0 0)::tm,(K,.arr sz [] true)::h⟩ fs Q):yP P F m ops false rest ⟨tm,h⟩ fs Q:=
 ⟨λa w R=>h1.run a w (wV.virt R t K sz hv u z)⟩
end
def Xx (m:Ms) (h:YE m):zO 122 [yO m] [] (bA false) []:=by
 obtain⟨k,A,u,z⟩:=m;obtain⟨h1,h2⟩:=h;dsimp only at h1 h2;subst h1;have c:=Px h2;rw[show yO ⟨k,[],u,z⟩= .agg [iA k,zE yA [],zE iA u,zE yA z]from Z]at *; refine eM call122 λF hF=>?_
 exact nl c
def V4 (l:List Ms) (u:ln l<=1000000) (h:∀m∈l,YE m):zO 184 [zE yO l,.fn 122 []] [] (iA (-1)) []:=by
 have hl:=zA yO l;refine eM call184 λF hF=>?_
 refine WW ?_;refine zU (l) [] [] [0,1,7] [8,0,1,7] Z (λi gd T U=>⟨(8,iA i)::T,U⟩) (Lq ?_ ?_)
 .intro i gd x post hx hi;have A:=zY yO hx hi;have z:=zX hx hi;have c:=Xx x (h x (yQ hx));clear hx;refine zP c ?_;rfl
 .exact mx
def Wx (l:List Ms) (u:ln l<=1000000) (h:∀m∈l,YE m):zO 121 [zE yO l,.fn 122 []] [] (zE yO l) []:=by
 have c:=V4 l u h;have hl:=zA yO l;refine eM call121 λF hF=>?_
 exact nl c
def EB (l:List Ms) (u:ln l<=1000000) (h:∀m∈l,YE m):zO 51 [zE yO l] [] (zE yO l) []:=by
 have c:=Wx l u h;have hl:=zA yO l;refine eM call51 λF hF=>?_
 exact nl c
def qi (y:Int):0<=gW y/\gW y<256:=by
 unfold gW;have e:IntKind.u8.wrap y=y % 256:=by simp[IntKind.wrap,IntKind.signed,IntKind.bits]
 rw[e];omega
def ji {l:List Vw} (h:∀v∈l,CK v):BY (XF l):=λx hx=>by
 unfold XF at hx;obtain⟨y,u,hx⟩:=zD9.1 hx;obtain⟨v,hv,rfl⟩:=zBm.1 u;have hb:=h v hv;have hc:=PZ hb.c (ln v.co) (zAe _) hb.n;have z:=gX (ln v.co) hb.n;have A:=xz (n:=vG v.co (ln v.co)) hc.1 zB;unfold F7 at hx;simp only[zDb,zC7,zBx,zBm]at hx
 rcases hx with rfl|rfl|rfl|⟨y,_,rfl⟩
 .unfold GA
  split<;>split<;>omega
 .omega
 all_goals exact qi _
def Vx (l:List Rq) (v:List Vw) (ga:Int) (n:Nat):BY (UR l v ga n):=λx hx=>by
 unfold UR at hx;obtain⟨i,_,rfl⟩:=zBm.1 hx;unfold fb;split
 .have:=qb ((l.getD (i/3) dd).legs.getD (i % 3) dd) v ga;omega
 .omega
theorem Dv (d:xU) (A:0<=d.rg.ag.req/\d.rg.ag.req<=4) (v:List Vw) (ga:Int) (B:0<=ga) (C:ga<=1073741824) (z:ln v<=4) (hb:∀w∈v,CK w):YE (LW d v ga):=by
 have h1:=cM hb;have h2:=dD [ga];have u:(UR d.rq v ga (d.rg.ag.req.toNat*3)).length=d.rg.ag.req.toNat*3:=by simp[UR]
 refine⟨rfl,by dsimp only[LW,Qs];omega,.cons zB .nil,by simp[LW,Qs],?_,.inl Z,.inl ⟨rfl,rfl⟩,?_⟩
 .intro x hx
  rcases zAy.1 hx with hx|hx
  .exact ji hb x hx
  .exact Vx _ _ _ _ x hx
 .show(([ga].map jI).flatten).length+1+(XF v++UR d.rq v ga (d.rg.ag.req.toNat*3)).length<=200
  grind
def PJ (ga:Int) (v:List Vw):Ms:=⟨21,[],[ga],XF v⟩
theorem Ux (v:List Vw) (ga:Int) (z:0<=ga) (A:ga<=1073741824) (u:ln v<=4) (hb:∀w∈v,CK w):YE (PJ ga v):=by
 have h1:=cM hb;have h2:=dD [ga];refine⟨rfl,by dsimp only[PJ];omega,.cons zB .nil,by simp[PJ],ji hb,.inl Z,.inl ⟨rfl,rfl⟩,?_⟩
 grind [YE,PJ]
def Tx (ga:Int) (v:List Vw) (u:ln v<=1000) (hb:∀w∈v,CK w):zO 52 [iA ga,zE wE v] [] (yO (PJ ga v)) []:=by
 have B:=Ik v u hb;have A:=zA yA (XF v);refine eM call52 λF hF=>?_
 refine zP B ?_;refine zH [] Z Z ?_ Z;exact zAt (λz=>AV.agg [iA 21,AV.sl false [],AV.sl false [iA ga],AV.sl false z]) zAa
def gT (e:En):List Int:=[e.ag,e.ki,e.co]
def Nh (ga:Int) (u:List En):Ms:=⟨18,[],ga::((u.take 16).map gT).flatten,[]⟩
theorem U4 (ga:Int) (O:0<=ga) (S:ga<=1073741824) (z:List En) (h:∀e∈z,Ui e):YE (Nh ga z):=by
 have hl:(z.take 16).length<=16:=by rw[zA0];omega
 have A:∀e∈z.take 16,Ui e:=λe u=>h e (zB6 u)
 unfold Nh;generalize z.take 16=l at*
 have C:((l.map gT).flatten).length=3*ln l:=by
  clear A hl
  induction l with
  |nil=>rfl
  |cons e l B=>rw[zBc,zC0,zAf,B,zAp];show 3+_=_;omega
 have M:((((l.map gT).flatten).map jI).flatten).length<=4*ln l:=by
  clear C hl
  induction l with
  |nil=>simp
  |cons e l B=>
   have B:=B λx hx=>A x (by simp[hx])
   have u:=A e yE;have e1:=EH (n:=e.ag) (by have:=u.a;omega);have I:=L4 (n:=e.ki) (by have:=u.k;omega);have e3:=EH (n:=e.co) (by have:=u.c;omega);rw[zBc,zC0,zAd,zDl,zAf,zAp]
   grind [YE,Nh,gT]
 have G:=(jZ ga).2;refine⟨rfl,by dsimp only;omega,?_,by dsimp only;rw[zAp];omega,λx hx=>(by cases hx),.inr Z,.inr ⟨.inr Z,(ln l:Int),?_,zB,by show(0:Int)<=_;omega,by show _<=(16:Int);omega⟩,?_⟩
 .refine .cons zB ?_;intro x hx;obtain⟨y,E,hx⟩:=zD9.1 hx;obtain⟨e,u,rfl⟩:=zBm.1 E;have hk:=A e u;have h1:=hk.a;have h2:=hk.k;have L:=hk.c
  grind [YE,Nh,gT]
 .show((ga::(l.map gT).flatten).length:Int)=1+3*(ln l:Int)
  grind
 all_goals grind
def uf (d:xU) (z:List Vw) (ga:Int) (k:Nat) (R:List (List Ms)) (u:List En):List Ms:=(R.getD k []++[LW d z ga])++(if d.au.getD k dd=true then [Nh ga u]else [])
theorem Cv (d:xU) (B:0<=d.rg.ag.req/\d.rg.ag.req<=4) (v:List Vw) (ga:Int) (C:0<=ga) (E:ga<=1073741824) (A:ln v<=4) (hb:∀w∈v,CK w) (k:Nat) (R:List (List Ms)) (z:∀l∈R,ln l<=1000/\∀m∈l,YE m) (hk:k<ln R) (u:List En) (h:∀e∈u,Ui e):(uf d v ga k R u).length<=1002/\∀m∈uf d v ga k R u,YE m:=by grind [YE,uf,List.getElem?_eq_getElem,List.getElem_mem,List.length_append,List.length_cons,List.length_nil,List.mem_singleton,Dv,U4]
theorem l8 (u:List En):u.take (min ((u.map bM).length:Int) 16).toNat=u.take 16:=by grind [bM,List.length_map,List.take_of_length_le]
theorem Zq (y:Cy) (n0:0<=y.ga) (n1:y.ga<=1073741824) (a k s:Nat) (ha:a<ln y.ds) (hd:cY (y.ds.getD a dd)) (W:0<=(y.ds.getD a dd).rg.ag.req/\(y.ds.getD a dd).rg.ag.req<=4) (hn:ln y.vw<=4) (hb:∀w∈y.vw,CK w) (hk:k<(y.ds.getD a dd).au.length)
  (R:List (List Ms)) (O:∀l∈R,ln l<=1000/\∀m∈l,YE m) (A:k<ln R) (u:List En) (he:∀e∈u,Ui e) (ac:ln u<=100000):
  zO 50 [vN y,yj a k s,zE jC R,zE bM u] [] (zE yO (uf (y.ds.getD a dd) y.vw y.ga k R u)) []:=by
 have ht:=Cv _ W y.vw y.ga n0 n1 hn hb k R O A u he;have z:=EB (uf (y.ds.getD a dd) y.vw y.ga k R u) zB ht.2;have C:=Ck (y.ds.getD a dd) hd W y.vw y.ga zB hb;have L:=zJ zN y.ds a ha;have B:=zJ jC R k A;have a2:=zJ bA (y.ds.getD a dd).au k hk;have ax:=zA jC R;have ap:=zA bM u;have ar:=zA bA (y.ds.getD a dd).au;have G:=(O _ (zQ R k A)).1;have eR:R.getD k dd=R.getD k []:=rfl;unfold vN eJ;unfold uf at z⊢;rw[eR]at B G;generalize LW (y.ds.getD a dd) y.vw y.ga=st,R.getD k []=E at *;have av:=zA yO E;unfold jC zE at B;generalize y.ds.getD a dd=d at *;unfold zN wG at L C;refine eM call50 λF hF=>?_
 refine zP C ?_;refine ba 25 1001 4 Z Z Z ?_;generalize d.au.getD k dd=b at *;cases b
 .have e1:zE yO ((E++[st])++if false=true then [Nh y.ga u]else [])= .sl false (E.map yO++[yO st]):=by
   rw[hW zAs,zA6];unfold zE;rw[zAd];rfl
  rw[e1]at z⊢
  (have gt:=C;(repeat' (first|refine qU ?_|apply yY|apply xN|intro hc|(apply zG;first|refine SM ?_)|fail))<;>clear gt)
  (refine vF 51 ?_;refine vR [] [85] Z ?_;(conv=>whnf);(try simp only[zAr,zAa]);first|refine wO (zK (z) Z Z Z Z Z) Z ?_|refine qH (zK (z) Z Z Z Z Z) Z Z Z ?_|refine bX (zK (z) Z Z Z Z Z) Z Z Z ?_)
  (repeat' (first|refine qU ?_|apply yY|apply xN|intro hc|(apply zG;first|refine SM ?_)|fail))
  exact zI
 .have e1:zE yO ((E++[st])++if true=true then [Nh y.ga u]else [])= .sl false ((E.map yO++[yO st])++[yO (Nh y.ga u)]):=by
   rw[Os Z];unfold zE;rw[zAd,zAd];rfl
  rw[e1]at z⊢
  (have gt:=C;(repeat' (first|refine qU ?_|apply yY|apply xN|intro hc|(apply zG;first|refine SM ?_)|fail))<;>clear gt)
  rw[l8];have S:(u.take 16).length<=16:=by rw[zA0];omega
  have V:=zA bM (u.take 16);rw[show yO (Nh y.ga u)= .agg [iA 18,.sl false [],.sl false ((y.ga::((u.take 16).map gT).flatten).map iA),.sl false []]from Z]at *; generalize u.take 16=M at *;refine vY 57 Z ?_;refine zU (M) [11,57,1001] [1001] [10,11,63,64] [65,10,11,63,64] Z (λi gd T U=>⟨(65,iA i)::T,(11,.box [iA 18,.s (.slice none 0 0),.ref 57 0 ((y.ga::(gd.map gT).flatten).map iA).length,.s (.slice none 0 0)])::(57,.arr 1 ((y.ga::(gd.map gT).flatten).map iA) true)::U⟩) (Lq ?_ ?_)
  .intro i gd x post hx hi;have Y:=zY bM hx hi;have az:=zX hx hi
   have a1:((gd.map gT).flatten).length=3*ln gd:=by
    clear hx hi Y
    induction gd with
    |nil=>rfl
    |cons e l ih=>rw[zBc,zC0,zAf,ih,zAp];show 3+_=_;omega
   have I:=zA iA (y.ga::(gd.map gT).flatten);rw[zAp]at I;rw[zAd,zDl];rw[show(y.ga::((gd.map gT).flatten++([x].map gT).flatten)).map iA=(y.ga::(gd.map gT).flatten).map iA++[iA x.ag,iA x.ki,iA x.co] by simp[gT]];unfold bM Se at Y;clear hx z C e1;generalize (y.ga::(gd.map gT).flatten).map iA=X at *;refine WW ?_;rfl
  .refine vJ [11,1001] [10,11,63,64,65] Z ?_
   (conv=>whnf)
   simp only[zAr,zAa]
   (repeat' (first|refine gM ?_|apply yY|apply xN|intro hc|(apply zG;first|(apply yL;refine XH 82 Z Z Z ?_;refine wQ tok Z Z ?_))|refine SB ?_|fail))
   (refine vF 51 ?_;refine vR [] [85] Z ?_;(conv=>whnf);(try simp only[zAr,zAa]);first|refine wO (zK (z) Z Z Z Z Z) Z ?_|refine qH (zK (z) Z Z Z Z Z) Z Z Z ?_|refine bX (zK (z) Z Z Z Z Z) Z Z Z ?_)
   (repeat' (first|refine qU ?_|apply yY|apply xN|intro hc|(apply zG;first|refine SM ?_)|fail))
   exact zI
structure VO (y:Cy):Prop where
 v:TW y.c
 rf:y.rf=false
 n0:0<=y.ga
 dl:y.ds.length=y.c.ags.length
 di:∀d∈y.ds,qB y.c d
 dg:∀a,a<y.ds.length->(y.ds.getD a default).rg.ag=y.c.ags.getD a default
 sc:∀d∈y.ds,KN y.ga d.rq
 gl:y.sg.length=y.c.js.length
 sl:y.sv.length=y.c.js.length
 tl:y.st.length=y.c.js.length
 wl:y.vw.length=y.c.js.length
 wb:∀w∈y.vw,CK w
 j:∀k,k<y.c.js.length->JI (y.c.js.getD k default) (y.sg.getD k default) (y.sv.getD k default) y.ga
def EC {α:Type} [Inhabited α] {l:List α} {x:α} (h:x∈l):∃i,i<ln l/\l.getD i dd=x:=by
 obtain⟨i,hi,e⟩:=List.mem_iff_getElem.1 h;exact⟨i,hi,by rw[zAk,zAu hi];exact e⟩
theorem VO.b (h:VO y):xw y:=by
 have M:=h.v.a;have hj:=h.v.j;have h1:=h.dl;have h2:=h.gl;have E:=h.sl;have G:=h.tl;have I:=h.wl;refine⟨zB,λd hd=>(h.di d hd).bd,zB,λs u=>?_,zB,λs u=>?_,zB,zB,λw B=>?_⟩
 .obtain⟨i,hi,rfl⟩:=EC u;have J:=h.v.jv _ (zQ y.c.js i zB);have C:=(h.j i zB).c;have z:=J.n;have A:=C.n;have L:=C.m;omega
 .obtain⟨i,hi,rfl⟩:=EC u;have J:=h.v.jv _ (zQ y.c.js i zB);have z:=J.n;have A:=(h.j i zB).n;omega
 .have:=h.wb w B;have z:=this.n;have A:=this.m;omega
def cR (c:Cf) (z:List Sg) (u:List Int):List Sg:=u.foldl (λs x=>s.set x.toNat (xq (c.js.getD x.toNat dd) (s.getD x.toNat dd))) z
theorem ED (c:Cf) (z:List Sg) (u:List Int) (x:Int):cR c z (u++[x])=(cR c z u).set x.toNat (xq (c.js.getD x.toNat dd) ((cR c z u).getD x.toNat dd)):=by grind [cR,xq]
theorem KL {α:Type} [Inhabited α] (l:List α) (i j:Nat) (x:α) (hj:j<ln l):(l.set i x).getD j dd=if i=j then x else l.getD j dd:=by grind
theorem KM (hv:TW c) {sv:List Sv} :∀(z:List Int) (u:List Sg),ln u=ln c.js->(∀k,k<ln c.js->JI (c.js.getD k dd) (u.getD k dd) (sv.getD k dd) ga)->(cR c u z).length=ln c.js/\∀k,k<ln c.js->JI (c.js.getD k dd) ((cR c u z).getD k dd) (sv.getD k dd) ga
 | [],u,hl,h=>⟨hl,h⟩
 |x::z,u,hl,h=>by
  have e:cR c u (x::z)=cR c (u.set x.toNat (xq (c.js.getD x.toNat dd) (u.getD x.toNat dd))) z:=rfl;rw[e];refine KM hv z _ (by rw[zBn];exact hl) λk hk=>?_
  rw[KL _ _ _ _ zB];split
  .rename_i hx;rw[hx];have H:=h k hk;exact⟨K8 (hv.jv _ (zQ c.js k hk)) H.c,H.n,H.e,H.g⟩
  .exact h k hk
theorem Yq (D:Nat->Sg×Sv) (l:List Sg) (n k:Nat) (h1:k<n) (h2:k<ln l):(YH D l n).getD k dd=(D k).1:=by grind [YH,uJ]
theorem Xq (D:Nat->Sg×Sv) (l:List Sv) (n k:Nat) (h1:k<n) (h2:k<ln l):(YI D l n).getD k dd=(D k).2:=by grind [YI,uJ]
def FS (u:List Jn) (D:Nat->Sg×Sv) (n:Nat):List Vw:=(pi n).map λk=>VP (u.getD k dd) (D k).1 (D k).2
theorem Wq (u:List Jn) (D:Nat->Sg×Sv) (n:Nat):mf u D n n=(FS u D n).map wE:=by simp_all [mf,FS,wE]
def fI (y:Cy) (R:Nat->DR):Nat->Sg×Sv:=ZD y.c (cR y.c y.sg (fU R (ln y.ds))) y.sv y.st (fQ (y.ga+1) y.ds R (ln y.ds)) (y.ga+1)
def kJ (y:Cy) (R:Nat->DR):Cy:=
 ⟨y.c,false,y.ga+1,fQ (y.ga+1) y.ds R (ln y.ds),YH (fI y R) (cR y.c y.sg (fU R (ln y.ds))) (ln y.c.js),YI (fI y R) y.sv (ln y.c.js),XK y.st (ln y.c.js),FS y.c.js (fI y R) (ln y.c.js)⟩
def Fp (y:Cy) (ins:List In) (R:Nat->DR):Prop:=∀a,a<ln y.ds->I7 y.c (y.ga+1) (XT (y.ds.getD a dd) (y.ga+1)) (Oi y.c ins a) (R a)/\True/\∀m k,Oi y.c ins a=m++pg k dd->zO 56 [vL y.c,zN (XT (y.ds.getD a dd) (y.ga+1)),zE fZ m,iA (y.ga+1)] [] (Mx (R a)) []
theorem YC {u:List xU} {a:Nat} (z:a<ln u):(fQ ga u R (ln u)).getD a dd=(R a).d:=by grind [fQ]
def eI (ga:Int) (u:List xU) (R:Nat->DR):(fQ ga u R (ln u)).length=ln u:=by simp[fQ]
theorem YD {u:List xU} {d:xU} (h:d∈fQ ga u R (ln u)):∃a,a<ln u/\d=(R a).d:=by grind [fQ]
def aa (l:List Rq) (ga:Int):XV l (KA l ga):=XV.filter _ _
noncomputable def Vq (y:Cy) (ins:List In) (a:Nat):DR:=XX y.c (XT (y.ds.getD a dd) (y.ga+1)) (Oi y.c ins a) (y.ga+1)
def T4 (h:VO y) (G:y.ga<1000000000) (z:∀i∈ins,Ep i):Fp y ins (Vq y ins):=λa B=>by
 have A:=h.di _ (zQ y.ds a B);obtain⟨C,E,_⟩:=S5 A (y.ga+1);have u:=A.au;rw[h.dg a B]at u;have I:=(h.v.av _ (zQ y.c.ags a (by have:=h.dl;omega))).e;have L:=h.n0
 exact af y.c _ C (Oi y.c ins a) (by unfold Oi oa;rw[f7,zBp];show _=(y.ds.getD a dd).au.length;omega) (λi hi=>by
  unfold Oi oa at hi;obtain⟨k,_,rfl⟩:=zBm.1 hi;by_cases hk:(jP y.c.ags a).toNat+k<ln ins
  .exact z _ (zQ ins _ hk)
  .rw[zAk,zBj zB]
   exact⟨zAn _,λx hx=>by cases hx⟩) (y.ga+1) zB zB
theorem Nc (h:VO y) (A:Fp y ins R):VO (kJ y R):=by
 have L:=h.n0;have E:=KM h.v (sv:=y.sv) (ga:=y.ga) (fU R (ln y.ds)) y.sg h.gl h.j
 have I:∀k,k<ln y.c.js->JI (y.c.js.getD k dd) (fI y R k).1 (fI y R k).2 (y.ga+1):=λk hk=>by
  have J:=h.v.jv _ (zQ y.c.js k hk);have H:=E.2 k hk;exact U8 J zB ⟨H.c,H.n,λe C=>by have:=H.e e C;omega,H.g⟩ _ _ _
 have G:=h.sl;refine⟨h.v,rfl,by show 0<=y.ga+1;omega,(eI ..).trans h.dl,λd hd=>?_,λa z=>?_,λd hd=>?_,?_,?_,?_,?_,λw B=>?_,λk hk=>?_⟩
 .obtain⟨a,z,rfl⟩:=YD hd;exact(A a z).1.i
 .have u:a<ln y.ds:=by rw[<-eI (y.ga+1) y.ds R];exact z
  show((fQ (y.ga+1) y.ds R (ln y.ds)).getD a dd).rg.ag=_
  rw[YC u,(A a u).1.ag];exact h.dg a u
 .obtain⟨a,z,rfl⟩:=YD hd;refine(A a z).1.sc ?_;exact KN.of zB ((h.sc _ (zQ y.ds a z)).mono zB) (aa _ _)
 .grind [Fp,kJ,YH,vI]
 .grind [Fp,kJ,YI,vI]
 .show(XK _ _).length=_
  unfold XK;rw[vI];exact h.tl
 .grind [Fp,kJ,FS]
 .unfold kJ FS at B;obtain⟨k,hk,rfl⟩:=zBm.1 B;exact uw _ (h.v.jv _ (zQ y.c.js k (zAw.1 hk))) _ _
 all_goals grind [Fp,kJ,YH,fI,cR,fU,YI,Yq,Xq]
def Mc (y:Cy) (ins:List In) (R:Nat->DR) (n a k:Nat):List Ms:=if(ins.getD ((jP y.c.ags a).toNat+k) dd).opn=true then uf (y.ds.getD a dd) y.vw y.ga k (R a).R (XJ R n)else []
def OT (T:Nat->Nat->List Ms) (a k:Nat):List (List Ms):=(pi k).map (T a)
def RV (c:Cf) (T:Nat->Nat->List Ms) (n:Nat):List (List Ms):=((pi n).map λa=>OT T a (c.ags.getD a dd).ses.toNat).flatten
def s8 (T:List (List Ms)) (f:Ms):AV:= .agg [zE jC T,zE yO [f]]
def EE (T:Nat->Nat->List Ms) (a k:Nat):OT T a (k+1)=OT T a k++[T a k]:=by simp[OT,zB4]
def VT (c:Cf) (T:Nat->Nat->List Ms) (n:Nat):RV c T (n+1)=RV c T n++OT T n (c.ags.getD n dd).ses.toNat:=by simp[RV,zB4]
theorem VU (u:LP c.ags) (T:Nat->Nat->List Ms):∀n,n<=ln c.ags->((RV c T n).length:Int)=jP c.ags n
 |0,_=>rfl
 |n+1,z=>by
  have A:=VU u T n zB;have:=u.at (i:=n) zB;rw[VT,zAf]
  show _=jP c.ags n+(c.ags.getD n dd).ses
  have:(OT T n (c.ags.getD n dd).ses.toNat).length=(c.ags.getD n dd).ses.toNat:=by simp[OT]
  omega
theorem Lc (z:LP c.ags) (T:Nat->Nat->List Ms):∀n,n<=ln c.ags->∀s,s<(RV c T n).length->∃a k:Nat,a<n/\(k:Int)<(c.ags.getD a dd).ses/\s=(jP c.ags a).toNat+k/\(RV c T n).getD s []=T a k
 |0,_,s,u=>by cases u
 | n+1,C,s,u=>by
  have hl:=VU z T n zB;rw[VT]at u⊢;by_cases h:s<(RV c T n).length
  .obtain⟨a,k,h1,h2,A,B⟩:=Lc z T n zB s h;refine⟨a,k,zB,h2,A,?_⟩;rw[zAk,zA9 h,<-zAk];exact B
  .rw[zAf]at u;have E:(OT T n (c.ags.getD n dd).ses.toNat).length=(c.ags.getD n dd).ses.toNat:=by simp[OT]
   refine⟨n,s-(RV c T n).length,zB,zB,zB,?_⟩;rw[zAk,zBb zB];unfold OT;rw[zAh,zB2 zB];rfl
theorem Kc {n:Nat} {x:Int} (h:x∈fU R n):∃a,a<n/\x∈(R a).ks:=by grind [fU]
theorem IL {n:Nat} {x:En} (h:x∈XJ R n):∃a,a<n/\x∈(R a).en:=by grind [XJ]
def S4 (T:List (List Ms)) (f:Ms):AV:= .agg [.ref 1051 0 (T.map jC).length,zE yO [f]]
def R4 (T:List (List Ms)):List (Nat×xM):=[(1051,.arr 1 (T.map jC) true)]
def Q4 (h:VO y) (hn:y.ga<1000000000) (E:Fp y ins R):YE (PJ (y.ga+1) (kJ y R).vw)/\∀x∈RV y.c (Mc (kJ y R) ins R (ln y.ds)) (ln y.c.ags),ln x<=1002/\∀m∈x,YE m:=by
 have B:=Nc h E;have n0:=h.n0;have hw:=h.v.ag;have W:=h.dl;have A:(kJ y R).vw.length<=4:=by have:=B.wl;have:=B.v.j;omega
 have C:∀e∈XJ R (ln y.ds),Ui e:=λe G=>by
  obtain⟨a,V,G⟩:=IL G;exact(E a V).1.en e G
 refine⟨Ux _ _ zB zB A B.wb,λx hx=>?_⟩;obtain⟨s,M,e⟩:=List.mem_iff_getElem.1 hx;obtain⟨a,k,h1,h2,h3,S⟩:=Lc hw (Mc (kJ y R) ins R (ln y.ds)) _ (zAe _) s M;have O:x=Mc (kJ y R) ins R (ln y.ds) a k:=by rw[<-S,zAk,zAu M,<-e];rfl
 rw[O];unfold Mc;split
 .have u:a<ln y.ds:=by omega
  have z:=(E a u).1
  have L:((XT (y.ds.getD a dd) (y.ga+1)).au.length:Int)=(y.c.ags.getD a dd).ses:=by
   have:=(h.di _ (zQ y.ds a u)).au;rw[h.dg a u]at this;exact this
  have U:=z.rn;have Y:=z.i.a.q;have I:(kJ y R).ds.getD a dd=(R a).d:=YC u;rw[I];exact Cv _ Y _ _ (by show 0<=y.ga+1;omega) (by show y.ga+1<=_;omega) A B.wb k (R a).R z.rv zB _ C
 .exact⟨zAn _,λm X=>by cases X⟩
structure Z8 (y y':Cy) (ins:List In) (T:List (List Ms)):Prop where
 i:VO y'
 c:y'.c=y.c
 n:y'.ga=y.ga+1
 l:T.length=ins.length
 v:∀x∈T,x.length<=1002/\∀m∈x,YE m
 f:YE (PJ (y.ga+1) y'.vw)
 tk:Fp y ins (Vq y ins)/\y'=kJ y (Vq y ins)/\T=RV y.c (Mc y' ins (Vq y ins) y.ds.length) y.c.ags.length
def gi (y:Cy) (h:VO y) (z:y.ga<1000000000) (ins:List In) (G:(ln ins:Int)=jP y.c.ags (ln y.c.ags)) (A:∀i∈ins,Ep i):
  ∃(B:Cy) (T:List (List Ms)),Z8 y B ins T/\True:=by
 have u:=T4 h z A;obtain⟨R,C⟩:∃R,R=Vq y ins:=⟨_,rfl⟩;rw[<-C]at u;have E:=Nc h u;have hl:=VU h.v.ag (Mc (kJ y R) ins R (ln y.ds)) _ (zAe _);exact⟨kJ y R,RV y.c (Mc (kJ y R) ins R (ln y.ds)) (ln y.c.ags),⟨E,rfl,rfl,zB,(Q4 h z u).2,(Q4 h z u).1,C▸⟨u,rfl,rfl⟩⟩,trivial⟩
def P4:AV:= .agg [.s (.slice none 0 0),.s (.slice none 0 0),iA 0,iA 0,iA 0,iA 0]
def Bv (n:Int):AV:= .agg [.sl false [],.sl false [],iA 0,iA 0,iA 0,iA 0,bA true,iA n,.sl false [],.sl false [],.sl false [],.sl false [],.sl false []]
def Tq:AV:= .sl false [.agg [iA 22,.s (.slice none 0 0),.sl false [iA 16],.s (.slice none 0 0)]]
def qf:zO 148 [iA 0,iA 1,iA 4] [] (bA false) []:=by
 refine eM call148 λF hF=>?_
 (repeat' (first|refine aK ?_|refine yY (λhc=>?_) λhc=>?_|fail))
 exact zI
def Sq:zO 78 [P4] [] (bA false) []:=by
 have w:=qf;unfold P4;refine eM call78 λF hF=>?_
 exact nl w
def Qq:zO 33 [P4] [] (Bv 0) []:=by
 have w:=Sq;unfold P4 at *;unfold Bv;refine eM call33 λF hF=>?_
 refine zP w ?_;refine zM (0) [2,3] [2,3] [2,3,19,20] [21,2,3,19,20] Z (λi T U=>⟨(21,iA i)::T,U⟩) (Lq ?_ ?_)
 .intro i hi;cases hi
 .exact mx
def O4:zO 44 [Bv 0] [] (Bv 0) []:=
 ZE ⟨⟨[],[],0,0,0,0⟩,true,0,[],[],[],[],[]⟩ ⟨by simp,λ_ h=>(by cases h),by simp,λ_ h=>(by cases h),by simp,λ_ h=>(by cases h),by simp,by simp,λ_ h=>(by cases h)⟩
def bi:zO 113 [] [] Tq []:=by
 unfold Tq;refine eM call113 λF hF=>?_
 exact ny
def N4:AV:= .sl false [.agg [bA true,.s (.slice none 0 0)]]
def gf:zO 45 [N4] [] (.agg [.sl false [Tq],Tq]) []:=by
 have w:=bi;unfold N4 Tq at *;obtain⟨z,u,hl,A⟩:∃l:List AV,l=[.agg [bA true,.s (.slice none 0 0)]]/\l.length=1/\l[(0:Nat)]? =some (.agg [bA true,.s (.slice none 0 0)]):=⟨_,rfl,rfl,rfl⟩;rw[<-u];refine eM call45 λF hF=>?_
 refine zP w ?_;rw[hl];refine zM (1) [7,2,3] [2,3] [0,2,3,11] [12,0,2,3,11] Z (λi T U=>⟨(12,iA i)::T,(7,.arr 1 (if i=0 then [.s (.slice none 0 0)]else [.sl false [.agg [iA 22,.s (.slice none 0 0),.sl false [iA 16],.s (.slice none 0 0)]]]) false)::U⟩) (Lq ?_ ?_)
 .intro i hi;obtain rfl:i=0:=by omega
  refine zP w ?_;rfl
 .exact mx
def ai:zO 12 [Bv 0,N4] [] (.tup [Bv 1,.agg [.sl false [Tq],Tq]]) []:=by
 have w:=gf;have k:=O4;unfold N4 Tq Bv at *;refine eM call12 λF hF=>?_
 refine zP k ?_;rw[show min (0:Int) 1073741823+1=1 from Z];exact nl w
def df:zO 18 [] [] (bA true) []:=by
 have u:=Qq;have z:=ai;unfold P4 at u;unfold N4 Tq Bv at *;refine eM call18 λF hF=>?_
 exact nm (xH u z)
def dM (n a b:Int) (h:a<=n/\n<=b):zO 154 [iA n,iA a,iA b] [] (bA true) []:=by
 have k:=wC n a b
 rwa [show xY n a b=true from zAc h]at k
def M4 (j:Jn) (J:JV j):zO 210 [zE iA j.cf] [] (bA true) []:=by
 have hl:=zA iA j.cf;have M:=J.n;have hc:=J.c;have I:=Ey (n:=ln j.cf) zB;refine eM call210 λF hF=>?_
 refine WW ?_;refine zM (ln j.cf) [] [] [0,14,15] [16,0,14,15] Z (λi T U=>⟨(16,iA i)::T,U⟩) (Lq ?_ ?_)
 .intro u L;have O:=zJ iA j.cf u L;have z:=J.row u zB;have G:(2:Int) ^ (ln j.ph)=p2 (ln j.cf:Int):=by rw[hc];unfold p2;rw[zAv]
  rw[G,<-hl]at z;have E:=uT j.cf zB u u;rw[J.ir u zB]at E;have A:=λv:Nat=>uT j.cf zB u v
  have B:=λv:Nat=>uT j.cf zB v u
  have C:=λv (hv:v<ln j.cf)=>J.sy u v zB zB
  rw[<-hl]at I;generalize j.cf.getD u dd=x at *;refine zP E ?_;refine zM (ln j.cf) [] [] [0,3,14,15,16,38] [39,0,3,14,15,16,38] Z (λi T U=>⟨(39,iA i)::T,U⟩) (Lq ?_ ?_)
  .intro v hv;have A:=A v;have B:=B v;rw[C v hv]at A;clear C;generalize vM j.cf v u=b at *;cases b
   all_goals
    (refine yB (xH A B) ?_)
    rfl
  ·(refine WW ?_)
   rfl
 .exact mx
def ni (j:Jn) (J:JV j) (p:Nat) (z:p<ln j.ph):zO 211 [yU (zS j p)] [] (bA true) []:=by
 have W:=J.rg p z;have V:=J.gp p z;obtain⟨X,t2,t3,t4,t5,t6,t7,t8,t9,A,B,Y,u⟩:=J.ti p z;generalize zS j p=t at *;have C:=dM t.ring 0 1 W;have E:=dM t.group 0 3 V;have G:=dM t.ming 1 60 ⟨X,zB⟩;have I:=dM t.maxg t.ming 60 ⟨zB,t3⟩;have L:=dM t.yel 1 60 ⟨t4,t5⟩;have M:=dM t.red 0 60 ⟨t6,t7⟩;have O:=dM t.walk 0 60 ⟨t8,t9⟩;have S:=dM t.clear 0 60 ⟨A,B⟩;by_cases U:t.walk=0
 .have h1:=u.1 U;clear u;refine eM call211 λF hF=>?_
  exact ng (Hb C E G I L M O S)
 .have h1:¬t.clear=0:=λh=>U (u.2 h)
  clear u;refine eM call211 λF hF=>?_
  exact ng (Hb C E G I L M O S)
def aZ (j:Jn) (p i:Nat):Bool:=(zS j p).group==0||(pi i).any λq=>(zS j q).group==(zS j p).group-1
def EF (j:Jn) (p i:Nat):aZ j p (i+1)=(aZ j p i||(zS j i).group==(zS j p).group-1):=by
 unfold aZ;rw[zB4,List.any_append,zFp,List.any_nil,zE5,Bool.or_assoc]
def Jc (j:Jn) (J:JV j) (p:Nat) (u:p<ln j.ph):aZ j p (ln j.ph)=true:=by
 unfold aZ;have B:=J.gp p u;by_cases z:(zS j p).group=0
 .rw[z];rfl
 .obtain⟨q,A,e⟩:=J.lo p u ((zS j p).group-1) zB zB;rw[zCk];exact .inr (zBr.2 ⟨q,zAw.2 A,by rw[zBv];exact e⟩)
theorem EG (j:Jn) (J:JV j):zO 155 [xC j] [] (bA true) []:=by
 have hl:=zA yU j.ph;have ag:=zA iA j.cf;have hn:=J.n;have hc:=J.c;have Y:=M4 j J;have c2:=dM j.st 0 60 J.st;refine eM call155 λF hF=>?_
 refine yB (xH Y c2) ?_;refine zM (ln j.ph) [1] [1] [1,42,43] [44,1,42,43] Z (λi T U=>⟨(44,iA i)::T,U⟩) (Lq ?_ ?_)
 .intro u G;have X:=zJ yU j.ph u G
  change (j.ph.map yU)[u]? =some (yU (zS j u))at X
  have cp:=ni j J u G;generalize zS j u=t at *;refine zP cp ?_;rfl
 .clear Y c2;refine WW ?_;refine zM (ln j.ph) [1] [1] [1,53,54] [55,1,53,54] Z (λi T U=>⟨(55,iA i)::T,U⟩) (Lq ?_ ?_)
  .intro u G;have X:=zJ yU j.ph u G
   change (j.ph.map yU)[u]? =some (yU (zS j u))at X
   have C:=Jc j J u G;have hg:=J.gp u G;have A:aZ j u 0=((zS j u).group==0):=by unfold aZ;simp
   have E:=EF j u;refine WW ?_;refine zM (ln j.ph) [1,7] [1,7] [1,6,7,53,54,55,61,62] [63,1,6,7,53,54,55,61,62] Z (λi T U=>⟨(63,iA i)::T,U⟩) (Lq ?_ ?_)
   .intro v hv;have B:=zJ yU j.ph v hv
    change (j.ph.map yU)[v]? =some (yU (zS j v))at B
    have M:=uT j.cf zB u v;have z:=J.ap u v G hv;clear E A C;by_cases I:u=v
    .have W:(u:Int)=v:=by omega
     clear z;generalize zS j u=a,zS j v=b at *;refine WW ?_;rfl
    have W:¬(u:Int)=v:=by omega
    by_cases h1:(zS j u).ring=(zS j v).ring
    .rw[z I (.inl h1)]at M;clear z;generalize zS j u=a,zS j v=b at *;refine zP M ?_;rfl
    by_cases h2:(zS j u).group=(zS j v).group
    .clear z;generalize zS j u=a,zS j v=b at *;refine WW ?_;rfl
    .rw[z I (.inr h2)]at M;clear z;generalize zS j u=a,zS j v=b at *;refine zP M ?_;rfl
   .have L:∀b:Bool,((zS j u).group==0)=b->b=aZ j u 0:=λb h=>by rw[A,h]
    by_cases O:(zS j u).group=0
    .have S:aZ j u 0=true:=by rw[A,zBv];exact O
     clear L;refine WW ?_;refine zM (ln j.ph) [1,7] [1,7] [1,7,53,54,55,98,99] [10,100,1,7,53,54,55,98,99] Z (λi T U=>⟨(10,bA (aZ j u i))::(100,iA i)::T,U⟩) ?_;(conv=>whnf);refine⟨by(rw[S];rfl),?_,?_⟩
     .intro v hv;have B:=zJ yU j.ph v hv
      change (j.ph.map yU)[v]? =some (yU (zS j v))at B
      have e9:aZ j u v=true:=by unfold aZ;rw[O];rfl
      have V:aZ j u (v+1)=true:=by unfold aZ;rw[O];rfl
      rw[e9,V];generalize zS j u=a,zS j v=b at *;refine WW ?_;rfl
     .rw[C];refine WW ?_;rfl
    .have S:aZ j u 0=false:=by rw[A,zBd];exact O
     clear L;refine WW ?_;refine zM (ln j.ph) [1,7] [1,7] [1,7,53,54,55,98,99] [10,100,1,7,53,54,55,98,99] Z (λi T U=>⟨(10,bA (aZ j u i))::(100,iA i)::T,U⟩) ?_;(conv=>whnf);refine⟨by(rw[S];rfl),?_,?_⟩
     .intro v hv;have B:=zJ yU j.ph v hv
      change (j.ph.map yU)[v]? =some (yU (zS j v))at B
      have V:=E v;rw[V];have ac:=J.gp v hv;generalize aZ j u v=bb at *;clear C E A;generalize zS j u=a,zS j v=b at *;cases bb
      .by_cases hq:b.group=a.group-1
       .rw[show(false||b.group==a.group-1)=true by rw[zCh,zBv];exact hq];refine WW ?_;rfl
       .rw[show(false||b.group==a.group-1)=false by rw[zCh,zBd];exact hq];refine WW ?_;rfl
      .rw[zCt];refine WW ?_;rfl
     .rw[C];refine WW ?_;rfl
  .exact mx
def Sx (c:Cf) (h:TW c):zO 84 [vL c] [] (bA true) []:=by
 have hj:=h.j;have M:=h.a;have A:=zA xC c.js;have z:=zA wP c.ags;have C:=dM ((c.js.map xC).length:Int) 1 4 zB;have w2:=dM ((c.ags.map wP).length:Int) 1 4 zB;have E:=dM c.per 1 600 h.p;have G:=dM c.cap 0 100 h.cp;have I:=dM c.hold 1 60 h.h;have L:=dM c.lock 0 600 h.l;unfold vL zE;refine eM call84 λF hF=>?_
 refine yB (xH C w2) ?_;refine zM ((c.js.map xC).length) [1] [1] [1,20,21] [22,1,20,21] Z (λi T U=>⟨(22,iA i)::T,U⟩) (Lq ?_ ?_)
 .intro i hi;have B:=zJ xC c.js i zB;have u:=EG _ (h.jv _ (zQ c.js i zB));generalize c.js.getD i dd=j at *;refine zP u ?_;rfl
 ·(refine WW ?_)
  refine zM ((c.ags.map wP).length) [1] [1] [1,31,32] [33,1,31,32] Z (λi T U=>⟨(33,iA i)::T,U⟩) (Lq ?_ ?_)
  .intro i hi;have B:=zJ wP c.ags i zB;have u:=RO (c.ags.getD i dd);rw[(OM _).2 (h.av _ (zQ c.ags i zB))]at u;generalize c.ags.getD i dd=a at *;refine zP u ?_;rfl
  .exact ng (cX E G I L)
def mi (p:Ph) (h:Sw p) (l:Li) (B: -1000000000000<=l.tk/\l.tk<=1000000000000) (z: -1000<=Dd p/\Dd p<=1000) (C: -1000<=p.yel/\p.yel<=1000) (A: -1000<=p.red/\p.red<=1000):zO 77 [yU p,yX l] [] (iA (Dp p l)) []:=by
 have c:=Nd p h;unfold Dp;generalize Dd p=n at *;by_cases h1:l.lamp=1
 .rw[Os h1,Int.max_comm];refine eM call77 λF hF=>?_
  exact nl c
 rw[hW h1];by_cases h2:l.lamp=2
 .rw[Os h2];refine eM call77 λF hF=>?_
  exact mx
 rw[hW h2];by_cases u:l.lamp=3
 .rw[Os u];refine eM call77 λF hF=>?_
  exact mx
 .rw[hW u];refine eM call77 λF hF=>?_
  exact mx
def ii (s:Sg) (i:Nat):List Int:=(pi i).map λp=>ww (xI s.c p)
def Zi (j:Jn) (s:Sg) (i:Nat):List Int:=(pi i).map λp=>Dp (zS j p) (xI s.c p)
def Ic (f:Nat->Int) (n:Nat):(pi n).map f=QI (λp _=>f p) (pg n 0) n:=by
 apply zBe;intro k;rw[uJ,zB1,zAh];by_cases hk:k<n
 .rw[Os hk,Os hk,zB2 hk];rfl
 .rw[hW hk,zBj qM];rfl
theorem zw (j:Jn) (J:JV j) (s:Sg) (C:CV j s.c) (v:Sv):zO 30 [xC j,wD s,xZ v] [] (wE (VP j s v)) []:=by
 have k:=Ns j J.n.2;have hl:=zA yU j.ph;have W:=J.n;have z:(s.c.li.map yX).length=ln j.ph:=by rw[f7];exact C.n
 unfold VP
 cases u:s.lat with
 |true=>
  rw[Os Z];unfold wD xZ;rw[u];unfold wE at *;refine eM call30 λF hF=>?_
  exact nl k
 | false=>
  rw[hW zAs];have e1:KO s (ln j.ph) (ln j.ph)=ii s (ln j.ph):=(Ic _ _).symm;have I:FT j s (ln j.ph) (ln j.ph)=Zi j s (ln j.ph):=(Ic _ _).symm;rw[e1,I];have O:∀i,(ii s (i+1)).map iA=(ii s i).map iA++[iA (ww (xI s.c i))]:=λi=>by simp[ii,zB4]
  have S:∀i,(Zi j s (i+1)).map iA=(Zi j s i).map iA++[iA (Dp (zS j i) (xI s.c i))]:=λi=>by simp[Zi,zB4]
  have L:∀i,((ii s i).map iA).length=i:=λi=>by simp[ii]
  have M:∀i,((Zi j s i).map iA).length=i:=λi=>by simp[Zi]
  unfold xC wD xZ zE at *;rw[u];refine eM call30 λF hF=>?_
  refine WW ?_;refine zW 8 1021 1 Z Z Z ?_;refine zW 9 1022 1 Z Z Z ?_;refine zM ((s.c.li.map yX).length) [1021,1022,3,6,7] [3,6,7] [3,6,7,24,25] [8,9,26,3,6,7,24,25] Z (λi T U=>⟨(8,.ref 1021 0 ((ii s i).map iA).length)::(9,.ref 1022 0 ((Zi j s i).map iA).length)::(26,iA i)::T,(1021,.arr 1 ((ii s i).map iA) true)::(1022,.arr 1 ((Zi j s i).map iA) true)::U⟩) (Lq ?_ ?_)
  .intro i hi;have hi':i<ln j.ph:=by omega
   have Y:(j.ph.map yU)[i]? =some (yU (zS j i)):=zJ yU j.ph i hi';have hz:(s.c.li.map yX)[i]? =some (yX (xI s.c i)):=zJ yX s.c.li i (by have:=C.n;omega);have X:=J.ti i hi';have hv:=C.k i hi';have x1:=L i;have x2:=M i
   have E: -1000000000000<=(xI s.c i).tk/\(xI s.c i).tk<=1000000000000:=by
    unfold AW at hv
    repeat' split at hv
    all_goals (first|(rw[zAg]at hv;omega)|cases hv)
   have G:=mi (zS j i) ⟨zB,zB,zB,zB⟩ (xI s.c i) E (by unfold Dd;omega) zB zB;rw[O,S];clear O S L M k e1 I;generalize Dp (zS j i) (xI s.c i)=V,(ii s i).map iA=A,(Zi j s i).map iA=B at *;generalize zS j i=p at *;unfold ww;generalize xI s.c i=l at *;by_cases h1:l.lamp=1
   .rw[Os (.inl h1)];refine zP G ?_;rfl
   by_cases h2:l.lamp=2
   .rw[Os (.inr h2)];refine zP G ?_;rfl
   .rw[hW (λh=>h.elim h1 h2)];refine zP G ?_;rfl
  ·(refine WW ?_)
   refine zH [] Z Z ?_ Z
   show AV.agg [bA false,bA (v.ph != -1),.sl false (py ((ii s (s.c.li.map yX).length).map iA).length (p5 0 ((ii s (s.c.li.map yX).length).map iA))),.sl false (py ((Zi j s (s.c.li.map yX).length).map iA).length (p5 0 ((Zi j s (s.c.li.map yX).length).map iA)))]=_
   rw[zAr,zAa,zAr,zAa,z];rfl
theorem IM (c:Cf) (h:TW c):zO 34 [vL c] [] (vN (XD c)) []:=by
 have E:=Sx c h;have hj:=h.j;have ha:=h.a;have B:=zA xC c.js;have A:=zA wP c.ags;have z:∀i,((XC c i).map zN).length=i:=λi=>by simp[XC]
 have u:vN (XD c)= .agg [zE xC c.js,zE wP c.ags,iA c.per,iA c.cap,iA c.hold,iA c.lock,bA false,iA 0,zE zN (XC c (ln c.ags)),zE wD (c.js.map qA),zE xZ (c.js.map aU),zE iA (c.js.map λ_=> -1),zE wE (c.js.map λj=>VP j (qA j) (aU j))]:=rfl;rw[u];unfold vL zE at *;refine eM call34 λF hF=>?_
 refine zP E ?_;refine zW 7 1011 17 Z Z Z ?_;refine zM ((c.ags.map wP).length) [1011,1,2,3] [1,2,3] [1,2,3,4,40,41] [7,42,1,2,3,4,40,41] Z (λi T U=>⟨(7,.ref 1011 0 ((XC c i).map zN).length)::(42,iA i)::T,(1011,.arr 17 ((XC c i).map zN) true)::U⟩) (Lq ?_ ?_)
 .intro i hi;have O:=zJ wP c.ags i zB;have V:=(Rw (i:Int) _ (h.av _ (zQ c.ags i zB))).2;have e:(XC c (i+1)).map zN=(XC c i).map zN++[zN (TL (i:Int) (c.ags.getD i dd) (c.ags.getD i dd).ses.toNat)]:=by unfold XC;rw[zB4,zAd,zAd];rfl
  have z:=z i;rw[e];clear E u e;generalize TL (i:Int) (c.ags.getD i dd) (c.ags.getD i dd).ses.toNat=dk at *;generalize c.ags.getD i dd=a at *;generalize (XC c i).map zN=X at *;unfold zN wG at*
  (have gt:=V;(repeat' (first|refine gM ?_|apply yY|apply xN|intro hc|(apply zG;first|(apply yL;refine wQ tok Z Z ?_))|refine SB ?_|fail))<;>clear gt)
  rfl
 ·(refine WW ?_)
  refine zW 10 1012 5 Z Z Z ?_;refine zW 11 1013 3 Z Z Z ?_;refine zW 12 1014 1 Z Z Z ?_;refine zW 4 1015 4 Z Z Z ?_;rw[A];refine zM ((c.js.map xC).length) [1012,1013,1014,1015,2,3,1011] [2,3,1011] [2,3,7,55,56] [4,10,11,12,57,2,3,7,55,56] Z (λi T U=>⟨(4,.ref 1015 0 (((c.js.take i).map λj=>VP j (qA j) (aU j)).map wE).length)::(10,.ref 1012 0 (((c.js.take i).map qA).map wD).length)::(11,.ref 1013 0 (((c.js.take i).map aU).map xZ).length)::(12,.ref 1014 0 ((c.js.take i).map λ_=>iA (-1)).length)::(57,iA i)::T,(1012,.arr 5 (((c.js.take i).map qA).map wD) true)::(1013,.arr 3 (((c.js.take i).map aU).map xZ) true)::(1014,.arr 1 ((c.js.take i).map λ_=>iA (-1)) true)::(1015,.arr 4 (((c.js.take i).map λj=>VP j (qA j) (aU j)).map wE) true)::U⟩) (Lq ?_ ?_)
  .intro i hi;have hi':i<ln c.js:=by omega
   have O:=zJ xC c.js i hi';have J:=h.jv _ (zQ c.js i hi')
   have G:c.js.take (i+1)=c.js.take i++[c.js.getD i dd]:=by
    rw[zAk,zAu hi',zCo,zCd hi']
   have M:(c.js.take i).length<=4:=by rw[zA0];omega
   have S:=Rd _ J;have I:=Nr (c.js.getD i dd).ph.length JC;have L:=zw _ J (qA (c.js.getD i dd)) (Ld J) (aU (c.js.getD i dd));have C:((c.js.getD i dd).ph.map yU).length=(c.js.getD i dd).ph.length:=f7 ..;rw[G];simp only[zAd,zBc,zBs];have m1:(((c.js.take i).map qA).map wD).length=(c.js.take i).length:=by simp
   have m2:(((c.js.take i).map aU).map xZ).length=(c.js.take i).length:=by simp
   have m3:((c.js.take i).map λ_=>iA (-1)).length=(c.js.take i).length:=by simp
   have m4:(((c.js.take i).map λj=>VP j (qA j) (aU j)).map wE).length=(c.js.take i).length:=by simp
   clear E u G J;unfold aU at *;rw[<-C]at I L⊢;generalize DP ((c.js.getD i dd).ph.map yU).length=sv,qA (c.js.getD i dd)=W at *;generalize VP (c.js.getD i dd) W sv=vw at *;generalize c.js.getD i dd=j,((c.js.take i).map qA).map wD=Y at *;generalize ((c.js.take i).map λj=>DP (ln j.ph)).map xZ=X2 at *;generalize (c.js.take i).map (λ_=>iA (-1))=X3,((c.js.take i).map λj=>VP j (qA j) (DP (ln j.ph))).map wE=X4 at *;unfold xC zE wD xZ wE at*
   (have gt:=S;have gv:=I;have ic:=L;(repeat' (first|refine gM ?_|apply yY|apply xN|intro hc|(apply zG;first|(apply yL;refine wQ tok Z Z ?_))|refine SB ?_|fail))<;>clear gt gv ic)
   rfl
  .rw[B,zAa];refine WW ?_;refine zH [] Z Z ?_ Z
   show AV.agg [.sl false (c.js.map xC),.sl false (c.ags.map wP),iA c.per,iA c.cap,iA c.hold,iA c.lock,bA false,iA 0,.sl false (py ((XC c (ln c.ags)).map zN).length (p5 0 ((XC c (ln c.ags)).map zN))),.sl false (py ((c.js.map qA).map wD).length (p5 0 ((c.js.map qA).map wD))),.sl false (py ((c.js.map aU).map xZ).length (p5 0 ((c.js.map aU).map xZ))),.sl false (py (c.js.map λ_=>iA (-1)).length (p5 0 (c.js.map λ_=>iA (-1)))),.sl false (py ((c.js.map λj=>VP j (qA j) (aU j)).map wE).length (p5 0 ((c.js.map λj=>VP j (qA j) (aU j)).map wE)))]=_
   rw[zAr,zAa,zAr,zAa,zAr,zAa,zAr,zAa,zAr,zAa,show(c.js.map λ_=>iA (-1))=(c.js.map λ_=>(-1:Int)).map iA by rw[zFr];rfl]
